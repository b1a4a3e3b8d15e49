/- ValueLists, the closure: its value is a List with the two lists, one behind the other. No conditions but those named. -/
import Derived.Test.YtdmmgeggljlceaaDoorXV5
namespace Go.Proofs.YtdmmgeggljlceaaDoor.XV
open Go.RowKit Go.Proofs.YtdmmgeggljlceaaDoorW.PrintWords Go.Proofs.YtdmmgeggljlceaaDoorW.PrintLast Go.Proofs.YtdmmgeggljlceaaDoorW.PrintMore
set_option linter.unusedVariables false
set_option maxHeartbeats 800000 in
theorem lists_join (A0 : Option Addr) (c0 : Nat) (l0 : List Int) (A1 : Option Addr) (c1 : Nat) (l1 : List Int) (w : World) (hr0 : Kd.C (Kd.int .i64) w A0 l0.length l0) (hr1 : Kd.C (Kd.int .i64) w A1 l1.length l1) (h0 : l0.length ≤ 5) (h1 : l1.length ≤ 5) :
    Calls Tryd.prog 23 #[.slice A0 l0.length c0, .slice A1 l1.length c1] w fun e w' => ∃ A c, e = .returned (.agg #[.int .i64 5, .int .i64 0, .string ByteArray.empty, .slice A (l0 ++ l1).length c]) ∧ (l0 ++ l1).length ≤ c ∧ Kd.C (Kd.int .i64) w' A (l0 ++ l1).length (l0 ++ l1) ∧ Below w.heap.size w w' := by
  have HR0 := Aside0.mk hr0
  have HR1 := Aside0.mk hr1
  clear hr0 hr1
  go_enter Tryd.func23, Tryd.ntmps23
  go_wp2_with (at_builtin; refine Kd.R_append_row (Value.int .i64) 0 (h1 := fun _ => rfl) (w0 := w) w.heap.size rfl (.const (.slice none 0 0)) (.tmp 5) 22 2 (.int .i64 0) 8 rfl Tryd.underlying22 info2 rfl (by decide) (.slice none 0 0) [] l0 A0 l0.length c0 (fun k => k ≠ w.heap.size) rfl rfl (fun k hk => ?_) ?aO ?aR ?aB ?aS ?aL ?_)
  case aO => exact Kd.R_nil _ _ _ _ _
  case aR => exact Kd.C_below HR0.out (below_alloc (Below.refl _ _) _)
  case aB => exact below_alloc (Below.refl _ _) _
  case aS => simp
  case aL => simp; omega
  · have : (w.alloc (.cells #[.int .i64 0, .int .i64 0, .string ⟨#[]⟩, .slice none 0 0] 24)).heap.size = w.heap.size + 1 := by simp
    omega
  intro v1 w1 hR hB hg hat
  have HO := Aside0.mk hR
  have HB := Aside0.mk hB
  clear hR hB hat
  go_wp2_with (at_builtin; refine Kd.R_append_row (Value.int .i64) 0 (h1 := fun _ => rfl) (w0 := w) w.heap.size rfl (.tmp 6) (.tmp 7) 22 2 (.int .i64 0) 8 rfl Tryd.underlying22 info2 rfl (by decide) v1 ([] ++ l0) l1 A1 l1.length c1 (fun k => k ≠ w.heap.size) rfl rfl (fun k hk => ?_) ?aO ?aR ?aB ?aS ?aL ?_)
  case aO => exact HO.out
  case aR => exact Kd.C_below HR1.out HB.out
  case aB => exact HB.out
  case aS => exact HB.out.size
  case aL => simp; omega
  · have := hg.size
    have e : (w.alloc (.cells #[.int .i64 0, .int .i64 0, .string ⟨#[]⟩, .slice none 0 0] 24)).heap.size = w.heap.size + 1 := by simp
    omega
  intro v2 w2 hR hB hg2 hat
  obtain ⟨A, c, rfl⟩ := Kd.R_slice hR
  have HO2 := Aside0.mk hR
  have HB2 := Aside0.mk hB
  have HG := Aside0.mk hg
  have HG2 := Aside0.mk hg2
  clear hR hB hat hg hg2
  have hb1 : w1.heap[w.heap.size]? = some (.cells #[.int .i64 0, .int .i64 0, .string ⟨#[]⟩, .slice none 0 0] 24 (0, 0)) := blk_grown (heap_alloc_new w _) HG.out (by simp [Value.ownBlock])
  have hb2 : w2.heap[w.heap.size]? = some (.cells #[.int .i64 0, .int .i64 0, .string ⟨#[]⟩, .slice none 0 0] 24 (0, 0)) := blk_grown hb1 HG2.out (fun e => (HO.out.1 w.heap.size e.symm) rfl)
  have BK := Aside0.mk hb2
  clear hb1 hb2
  generalize hgb : w.heap.size = gb at *
  have hcz0 : w2.cell? ⟨gb, 0, none⟩ = some (.int .i64 0) := (blk_cell BK.out 0).trans rfl
  have hcz1 : w2.cell? ⟨gb, 1, none⟩ = some (.int .i64 0) := (blk_cell BK.out 1).trans rfl
  have hcz2 : w2.cell? ⟨gb, 2, none⟩ = some (.string ⟨#[]⟩) := (blk_cell BK.out 2).trans rfl
  have hcz3 : w2.cell? ⟨gb, 3, none⟩ = some (.slice none 0 0) := (blk_cell BK.out 3).trans rfl
  have hfz0 := blk_frozen BK.out 0
  have hfz1 := blk_frozen BK.out 1
  have hfz2 := blk_frozen BK.out 2
  have hfz3 := blk_frozen BK.out 3
  go_wp2
  have hf : ((((w2.setCell ⟨gb, 0, none⟩ (.int .i64 5)).setCell ⟨gb, 1, none⟩ (.int .i64 0)).setCell ⟨gb, 2, none⟩ (.string ⟨#[]⟩)).setCell ⟨gb, 3, none⟩ (.slice A (l0.length + l1.length) c)).heap[gb]? = some (.cells #[.int .i64 5, .int .i64 0, .string ⟨#[]⟩, .slice A (l0.length + l1.length) c] 24 (0, 0)) := by
    refine (blk_set (blk_set (blk_set (blk_set BK.out 0 _) 1 _) 2 _) 3 _).trans ?_
    simp
  have hn : ∀ k, Value.ownBlock (.slice A ([] ++ l0 ++ l1).length c) = some k → k ≠ gb := fun k hk => HO2.out.1 k hk
  have hR2 := Kd.R_far (p := ⟨gb, 3, none⟩) (Kd.R_far (p := ⟨gb, 2, none⟩) (Kd.R_far (p := ⟨gb, 1, none⟩) (Kd.R_far (p := ⟨gb, 0, none⟩) HO2.out (fun _ h => h) (.int .i64 5)) (fun _ h => h) (.int .i64 0)) (fun _ h => h) (.string ⟨#[]⟩)) (fun _ h => h) (.slice A (l0.length + l1.length) c)
  have hq0 := (blk_cell hf 0).trans rfl
  have hq1 := (blk_cell hf 1).trans rfl
  have hq2 := (blk_cell hf 2).trans rfl
  have hq3 := (blk_cell hf 3).trans rfl
  have hB3 : Below gb w ((((w2.setCell ⟨gb, 0, none⟩ (.int .i64 5)).setCell ⟨gb, 1, none⟩ (.int .i64 0)).setCell ⟨gb, 2, none⟩ (.string ⟨#[]⟩)).setCell ⟨gb, 3, none⟩ (.slice A (l0.length + l1.length) c)) := by
    have h := HB2.out
    rw [← hgb] at h ⊢
    exact below_set (below_set (below_set (below_set h (Nat.le_refl _)) (Nat.le_refl _)) (Nat.le_refl _)) (Nat.le_refl _)
  generalize ((((w2.setCell ⟨gb, 0, none⟩ (.int .i64 5)).setCell ⟨gb, 1, none⟩ (.int .i64 0)).setCell ⟨gb, 2, none⟩ (.string ⟨#[]⟩)).setCell ⟨gb, 3, none⟩ (.slice A (l0.length + l1.length) c)) = w3 at *
  (try simp only [Exit.inBlock, Exit.then])
  refine bodyPost_ret (v := .agg #[.int .i64 5, .int .i64 0, .string ByteArray.empty, .slice A (l0.length + l1.length) c]) ?_ rfl ?_
  · exact results_single rfl (.cell gb 24 _ (0, 0) _ rfl hf Tryd.underlying24 rfl rfl .nil)
  · obtain ⟨e1, e2, e3⟩ := Kd.R_reads' hR2
    simp only [List.nil_append, List.length_append] at *
    exact ⟨A, c, rfl, by simpa using e2, e3, by subst hgb; exact hB3⟩
end Go.Proofs.YtdmmgeggljlceaaDoor.XV
