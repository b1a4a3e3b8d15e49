/- RouteVerdicts: the printed functions answer alike, and the chapter's examples are met; no conditions. -/
import Derived.Test.YtmbojmmboolagaaPRouteVerdictsx2
import Derived.Test.YtmbojmmboolagaaOpen
namespace Go.Proofs.Ytmbojmmboolagaa.PRouteVerdicts
open Go.RowKit Go.Proofs.YtmbojmmboolagaaW.PrintWords Go.Proofs.Ytmbojmmboolagaa.Open
set_option linter.unusedVariables false
inductive G66 : S66 → Prop
  | mk {x : S66} (h0 : (Lit.int .i64 x.f0).wf = true) (h1 : (Lit.int .i64 x.f1).wf = true) (h2 : x.f2.size ≤ 140737488351232) (h3a : x.f3.length * Try.prog.bytesOf 66 ≤ 140737488351232) (h3b : x.f3.length ≤ maxLen) (h3 : ∀ y ∈ x.f3, G66 y) : G66 x
theorem opens_k66 : ∀ n, Opens n Try.prog 66 k66 G66 := by
  intro n
  induction n using Nat.strongRecOn with
  | _ n ih =>
    refine Opens.of (opens_struct' (k := (Kd.pair (Kd.int .i64) (Kd.pair (Kd.int .i64) (Kd.pair Kd.string (Kd.slice 66 k66))))) id id (fun _ => rfl) Try.underlying66 (by kernel_rfl) (fun m hm => (OpensF.cons rfl (by kernel_rfl) (opens_int Try.underlying3) (OpensF.cons rfl (by kernel_rfl) (opens_int Try.underlying2) (OpensF.cons rfl (by kernel_rfl) (opens_string Try.underlying9) (OpensF.last rfl (by kernel_rfl) (opens_slice' Try.underlying22 (by kernel_rfl) (fun j hj => ih j (by omega))))))))) (fun v => (⟨v.1, v.2.1, v.2.2.1, v.2.2.2⟩ : S66)) ?_ ?_
    · rintro w ⟨v0, v1, v2, v3⟩ cs hK
      obtain ⟨_, _, rfl, rfl, ⟨_, _, rfl, rfl, ⟨_, _, rfl, rfl, ⟨A3, c3, rfl, l3, g3⟩⟩⟩⟩ := hK
      exact k66_mk w ⟨v0, v1, v2, v3⟩ l3 g3
    · rintro ⟨v0, v1, v2, v3⟩ ⟨g0, g1, g2, g3⟩
      exact .mk g0 g1 g2 g3.1 g3.2.1 g3.2.2
def verdict (n lo hi : Int) (sp : Bool) : Int × Int :=
  if n > 0 ∧ n ≥ lo ∧ n ≤ hi then (0, 0) else if n = 0 ∧ sp = true then (1, 0) else if n ≥ lo ∧ n ≤ hi then (0, 0) else if n = 0 then (2, 1) else if n < lo then (2, 2) else (2, 3)
theorem verdict_code (k : Nat) (b0 b1 b2 b3 b4 : ByteArray) (l : List S66) (lo hi : Int) (sp : Bool) (c : List ByteArray) (n : Int) : route_Verdict.f (k + 3) b0 b1 b2 b3 b4 l lo hi sp c n = some (verdict n lo hi sp) := by
  unfold route_Verdict.f verdict
  simp only [route_Verdict.j0, route_Verdict.j1, route_Verdict.j2, decide_eq_true_eq, Bool.false_eq_true, if_false]
  cases sp <;> simp only [and_true, and_false, Bool.false_eq_true, if_false, if_true] <;> repeat' split
  all_goals first | rfl | (exfalso; omega)
theorem verdict_ref (k : Nat) (b0 b1 b2 b3 b4 : ByteArray) (l : List S66) (lo hi : Int) (sp : Bool) (c : List ByteArray) (n : Int) : switchyardref17_Verdict.f (k + 3) b0 b1 b2 b3 b4 l lo hi sp c n = some (verdict n lo hi sp) := by
  unfold switchyardref17_Verdict.f verdict
  simp only [switchyardref17_Verdict.j0, switchyardref17_Verdict.j1, switchyardref17_Verdict.j2, decide_eq_true_eq, Bool.false_eq_true, if_false]
  cases sp <;> simp only [and_true, and_false, Bool.false_eq_true, if_false, if_true] <;> repeat' split
  all_goals first | rfl | (exfalso; omega)
theorem awake_true : switchyardlaw17_awake.f 3 = some true := by
  unfold switchyardlaw17_awake.f
  simp only [verdict_code 0]
  decide
theorem law_true (b0 b1 b2 b3 b4 : ByteArray) (l : List S66) (lo hi : Int) (sp : Bool) (c : List ByteArray) (n : Int) : switchyardlaw17_RouteVerdicts.f 3 b0 b1 b2 b3 b4 l lo hi sp c n = some true := by
  unfold switchyardlaw17_RouteVerdicts.f
  simp [awake_true, verdict_code 0, verdict_ref 0]
theorem walk (a0_0 : ByteArray) (a0_1 : ByteArray) (a0_2 : ByteArray) (a0_3 : ByteArray) (a0_4 : ByteArray) (A0_5 : Option Addr) (c0_5 : Nat) (l0_5 : (List S66)) (a0_6 : Int) (a0_7 : Int) (a0_8 : Bool) (A0_9 : Option Addr) (c0_9 : Nat) (l0_9 : (List ByteArray)) (a1 : Int) (W : World) (hG0_0 : a0_0.size ≤ 140737488351232) (hG0_1 : a0_1.size ≤ 140737488351232) (hG0_2 : a0_2.size ≤ 140737488351232) (hG0_3 : a0_3.size ≤ 140737488351232) (hG0_4 : a0_4.size ≤ 140737488351232) (hC0_5 : Kd.C k66 W A0_5 l0_5.length l0_5) (hc0_5 : l0_5.length ≤ c0_5) (hG0_5 : (l0_5.length * Try.prog.bytesOf 66 ≤ 140737488351232 ∧ l0_5.length ≤ maxLen ∧ ∀ y ∈ l0_5, G66 y)) (hG0_6 : (Lit.int .i64 a0_6).wf = true) (hG0_7 : (Lit.int .i64 a0_7).wf = true) (hG0_8 : True) (hC0_9 : Kd.C Kd.string W A0_9 l0_9.length l0_9) (hc0_9 : l0_9.length ≤ c0_9) (hG0_9 : (l0_9.length * Try.prog.bytesOf 9 ≤ 140737488351232 ∧ l0_9.length ≤ maxLen ∧ ∀ y ∈ l0_9, y.size ≤ 140737488351232)) (hG1 : (Lit.int .i64 a1).wf = true) :
    Calls Try.prog 3 #[.agg #[.string a0_0, .string a0_1, .string a0_2, .string a0_3, .string a0_4, .slice A0_5 l0_5.length c0_5, .int .i64 a0_6, .int .i64 a0_7, .bool a0_8, .slice A0_9 l0_9.length c0_9], .int .i64 a1] W fun e w' => e = .returned (.bool true) ∧ Below W.heap.size W w' :=
  switchyardlaw17_RouteVerdicts.calls 3 a0_0 a0_1 a0_2 a0_3 a0_4 A0_5 c0_5 l0_5 a0_6 a0_7 a0_8 A0_9 c0_9 l0_9 a1 true W hC0_5 hc0_5 hC0_9 hc0_9 (law_true ..)
end Go.Proofs.Ytmbojmmboolagaa.PRouteVerdicts
