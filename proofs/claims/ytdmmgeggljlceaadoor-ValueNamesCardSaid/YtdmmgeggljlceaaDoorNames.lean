/- ValueNames: the law's own call answers true. No conditions. -/
import Derived.Test.YtdmmgeggljlceaaDoorXV11
import Derived.Test.YtdmmgeggljlceaaDoorPureA
import Derived.Test.YtdmmgeggljlceaaDoorOpen
namespace Go.Proofs.YtdmmgeggljlceaaDoor.XV
open Go.RowKit Go.Proofs.YtdmmgeggljlceaaDoorW.PrintWords Go.Proofs.YtdmmgeggljlceaaDoorW.PrintLast Go.Proofs.YtdmmgeggljlceaaDoorW.PrintMore
set_option linter.unusedVariables false
def okB (c : Int) : Bool := letterB c || (decide (c = 95) || decide (48 ≤ c ∧ c ≤ 57))
theorem okB_okAt {i : Nat} (h : 0 < i) (c : Int) : okAt i c = okB c := by unfold okAt okB; rw [decide_eq_true (show i ≠ 0 by omega), Bool.true_and]
theorem bt_left (a b : ByteArray) (i : Nat) (h : i < a.size) : bt (a ++ b) (i : Int) = bt a (i : Int) := by
  rw [nm_bt_at _ i (by rw [ByteArray.size_append]; omega), nm_bt_at _ i h, ByteArray.getElem_append_left h]
theorem bt_right (a b : ByteArray) (i : Nat) (h : i < b.size) : bt (a ++ b) ((a.size + i : Nat) : Int) = bt b (i : Int) := by
  rw [nm_bt_at _ (a.size + i) (by rw [ByteArray.size_append]; omega), nm_bt_at _ i h, ByteArray.getElem_append_right (by omega)]
  simp only [Nat.add_sub_cancel_left]
theorem bt_ext (a : ByteArray) (s e i : Nat) (h : i < (a.extract s e).size) : bt (a.extract s e) (i : Int) = bt a ((s + i : Nat) : Int) := by
  have h' := h
  rw [ByteArray.size_extract] at h'
  rw [nm_bt_at _ i h, nm_bt_at _ (s + i) (by omega), ByteArray.getElem_extract h]
theorem nameB_out {s : ByteArray} (h : nameB s = true) : 0 < s.size ∧ s.size ≤ 24 ∧ ∀ i, i < s.size → okAt i (bt s (i : Int)) = true := by
  unfold nameB at h
  rw [Bool.and_eq_true, decide_eq_true_eq, List.all_eq_true] at h
  exact ⟨h.1.1, h.1.2, fun i hi => h.2 i (List.mem_range.2 hi)⟩
theorem nameB_cut {s : ByteArray} (h : nameB s = true) (k : Nat) (h0 : 0 < k) (hk : k ≤ s.size) : nameB (s.extract 0 k) = true := by
  obtain ⟨_, h2, h3⟩ := nameB_out h
  have e : (s.extract 0 k).size = k := by rw [ByteArray.size_extract]; omega
  refine nameB_yes (by omega) (by omega) (fun i hi => ?_)
  rw [bt_ext s 0 k i hi, Nat.zero_add]
  exact h3 i (by omega)
theorem nameB_one (s : ByteArray) (i : Nat) (h : i < s.size) : nameB (s.extract i (i + 1)) = letterB (bt s (i : Int)) := by
  have e : (s.extract i (i + 1)).size = 1 := by rw [ByteArray.size_extract]; omega
  have e0 : bt (s.extract i (i + 1)) ((0 : Nat) : Int) = bt s (i : Int) := by rw [bt_ext s i (i + 1) 0 (by omega)]; rfl
  cases hb : letterB (bt s (i : Int)) with
  | true =>
    refine nameB_yes (by omega) (by omega) (fun j hj => ?_)
    have hj0 : j = 0 := by omega
    subst hj0
    rw [e0]; unfold okAt; rw [hb]; rfl
  | false =>
    refine nameB_no (i := 0) (by omega) ?_
    rw [e0]; unfold okAt; rw [hb]; rfl
theorem nameB_ahead (c : UInt8) (s : ByteArray) (h : letterB ((c.toNat : Nat) : Int) = false) : nameB ((⟨#[c]⟩ : ByteArray) ++ s) = false := by
  have h1 : (⟨#[c]⟩ : ByteArray).size = 1 := rfl
  refine nameB_no (i := 0) (by rw [ByteArray.size_append]; omega) ?_
  rw [bt_left _ s 0 (by omega), nm_bt_at _ 0 (by omega)]
  show okAt 0 ((c.toNat : Nat) : Int) = false
  unfold okAt; rw [h]; rfl
def okTo (a0 a1 : ByteArray) (i : Nat) : Bool := decide (a0.size + a1.size ≤ 24) && (List.range i).all fun j => okB (bt a1 (j : Int))
theorem okTo_succ (a0 a1 : ByteArray) (i : Nat) : okTo a0 a1 (i + 1) = (okTo a0 a1 i && okB (bt a1 (i : Int))) := by
  unfold okTo; rw [List.range_succ, List.all_append]; simp [Bool.and_assoc]
theorem nameB_two (a0 a1 : ByteArray) (h : nameB a0 = true) : nameB (a0 ++ a1) = okTo a0 a1 a1.size := by
  obtain ⟨h1, h2, h3⟩ := nameB_out h
  have es : (a0 ++ a1).size = a0.size + a1.size := ByteArray.size_append
  by_cases hs : a0.size + a1.size ≤ 24
  · unfold okTo; rw [decide_eq_true hs, Bool.true_and]
    cases hb : (List.range a1.size).all fun j => okB (bt a1 (j : Int)) with
    | true =>
      rw [List.all_eq_true] at hb
      refine nameB_yes (by omega) (by omega) (fun i hi => ?_)
      by_cases hi0 : i < a0.size
      · rw [bt_left a0 a1 i hi0]; exact h3 i hi0
      · have e : i = a0.size + (i - a0.size) := by omega
        rw [e, bt_right a0 a1 (i - a0.size) (by omega), okB_okAt (by omega)]
        exact hb _ (List.mem_range.2 (by omega))
    | false =>
      rw [List.all_eq_false] at hb
      obtain ⟨j, hj, hb⟩ := hb
      have hj' := List.mem_range.1 hj
      refine nameB_no (i := a0.size + j) (by omega) ?_
      rw [bt_right a0 a1 j hj', okB_okAt (by omega)]
      exact Bool.eq_false_iff.2 hb
  · unfold okTo nameB; rw [decide_eq_false hs, decide_eq_false (by omega)]; simp
theorem names_loop (a0 a1 : ByteArray) (x7 : Int) (h7 : 1 ≤ x7) (h7' : x7 ≤ (a0.size : Int)) (h : nameB a0 = true) (hs : a1.size ≤ 140737488351232) : ∀ d i : Nat, i + d = a1.size → Ev (fun k => switchyardlaw06_ValueNames.l0 k a0 a1 x7 (okTo a0 a1 i) (a1.size : Int) (i : Int)) true := by
  obtain ⟨h1, h2, h3⟩ := nameB_out h
  intro d
  induction d with
  | zero =>
    intro i hi
    have hi' : i = a1.size := by omega
    refine Ev.step (fun k => by simp only [switchyardlaw06_ValueNames.l0]; rfl) (Ev.neg (by omega) (Ev.bind awake_ev ?_))
    refine Ev.pos rfl (Ev.pos (by omega) (Ev.pos (by omega) ?_))
    simp only [value_Name.f]
    rw [nameB_cut h x7.toNat (by omega) (by omega), nameB_ahead 49 a0 (by decide), nameB_ahead 95 a0 (by decide)]
    refine Ev.bind (Ev.now _) (Ev.pos rfl (Ev.pos (by omega) (Ev.bind (Ev.now _) (Ev.neg (by simp) (Ev.bind (Ev.now _) (Ev.neg (by simp) ?_))))))
    by_cases hc : (a1.size : Int) > 100
    · exact Ev.pos hc (Ev.now _)
    · refine Ev.neg hc (Ev.pos (by omega) (Ev.bind (Ev.now _) (Ev.val ?_)))
      rw [nameB_two a0 a1 h, hi']; simp
  | succ d ih =>
    intro i hi
    have hlt : i < a1.size := by omega
    have next := ih (i + 1) (by omega)
    rw [okTo_succ] at next
    refine Ev.step (fun k => by simp only [switchyardlaw06_ValueNames.l0]; rfl) (Ev.pos (by omega) ?_)
    rw [wr_succ hlt (by omega)]
    cases ho : okTo a0 a1 i with
    | false =>
      rw [ho, Bool.false_and] at next
      exact Ev.neg (by simp) next
    | true =>
      rw [ho, Bool.true_and] at next
      refine Ev.pos (by trivial) (Ev.pos (by omega) (Ev.pos (by omega) (Ev.pos (by omega) ?_)))
      simp only [value_Name.f, Int.toNat_natCast]
      rw [nameB_one a1 i hlt]
      refine Ev.bind (Ev.now _) ?_
      cases hl : letterB (bt a1 (i : Int)) with
      | true =>
        rw [show okB (bt a1 (i : Int)) = true by unfold okB; rw [hl]; rfl] at next
        exact Ev.pos (by trivial) next
      | false =>
        refine Ev.neg (by simp) (Ev.pos (by omega) ?_)
        have e : okB (bt a1 (i : Int)) = (decide (bt a1 (i : Int) = 95) || decide (48 ≤ bt a1 (i : Int) ∧ bt a1 (i : Int) ≤ 57)) := by unfold okB; rw [hl]; rfl
        rw [e] at next
        by_cases h95 : bt a1 (i : Int) = 95
        · rw [decide_eq_true h95, Bool.true_or] at next
          exact Ev.pos h95 next
        · rw [decide_eq_false h95, Bool.false_or] at next
          refine Ev.neg h95 ?_
          by_cases h48 : bt a1 (i : Int) ≥ 48
          · rw [show decide (48 ≤ bt a1 (i : Int) ∧ bt a1 (i : Int) ≤ 57) = decide (bt a1 (i : Int) ≤ 57) by rw [decide_eq_decide]; omega] at next
            exact Ev.pos h48 next
          · rw [decide_eq_false (by omega)] at next
            exact Ev.neg h48 next
theorem names_true (a0 a1 : ByteArray) (a2 : Int) (hs : a1.size ≤ 140737488351232) : ∃ k, switchyardlaw06_ValueNames.f k a0 a1 a2 = some true := by
  refine Ev.rounds ?_
  unfold switchyardlaw06_ValueNames.f
  refine Ev.bind awake_ev (Ev.pos rfl ?_)
  simp only [value_Name.f]
  refine Ev.bind (Ev.now _) ?_
  by_cases h : nameB a0 = true
  · obtain ⟨h1, h2, h3⟩ := nameB_out h
    refine Ev.pos h (Ev.neg (by omega) (Ev.pos (by omega) ?_))
    have hw : 0 ≤ IntKind.u64.wrap a2 := by simp only [IntKind.wrap]; exact Int.emod_nonneg _ (by decide)
    have hm := Int.emod_nonneg (IntKind.u64.wrap a2) (show (a0.size : Int) ≠ 0 by omega)
    have hm2 := Int.emod_lt_of_pos (IntKind.u64.wrap a2) (show 0 < (a0.size : Int) by omega)
    rw [Int.tmod_eq_emod_of_nonneg hw]
    generalize hq : IntKind.u64.wrap a2 % (a0.size : Int) = q at hm hm2 ⊢
    have e : wrap64 (1 + wrap64 q) = 1 + q := by unfold wrap64; omega
    rw [e]
    have := names_loop a0 a1 (1 + q) (by omega) (by omega) h hs a1.size 0 (by omega)
    have e2 : okTo a0 a1 0 = decide (((a0 ++ a1).size : Int) ≤ 24) := by
      unfold okTo; rw [ByteArray.size_append]; simp; omega
    rw [e2] at this
    exact this
  · exact Ev.neg h (Ev.bind awake_ev (Ev.now _))
theorem names_walk (a0 : ByteArray) (a1 : ByteArray) (a2 : Int) (W : World) (hG0 : a0.size ≤ 140737488351232) (hG1 : a1.size ≤ 140737488351232) (hG2 : (Lit.int .i64 a2).wf = true) (hT : Tabs W) :
    Calls Tryd.prog 5 #[.string a0, .string a1, .int .i64 a2] W fun e w' => e = .returned (.bool true) ∧ Below W.heap.size W w' := by
  obtain ⟨k, hk⟩ := names_true a0 a1 a2 hG1
  exact switchyardlaw06_ValueNames.calls k a0 a1 a2 true W hk hT
end Go.Proofs.YtdmmgeggljlceaaDoor.XV
