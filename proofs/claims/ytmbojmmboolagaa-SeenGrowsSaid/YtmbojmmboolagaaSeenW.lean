/- The laws of layer 20: the chapter's example. Conditions: none. -/
import Derived.Test.YtmbojmmboolagaaSeenA
namespace Go.Proofs.Ytmbojmmboolagaa.XS
open Go.RowKit Go.Proofs.YtmbojmmboolagaaW.PrintWords Go.Proofs.YtmbojmmboolagaaW.PrintLast Go.Proofs.YtmbojmmboolagaaW.PrintMore
set_option linter.unusedVariables false
set_option linter.unusedSimpArgs false
theorem list_C {w : World} {g : Nat} {ys : List Int} (hv : w.heap[g]? = some (.cells (ys.map (Value.int .i64)).toArray 2 (0, 0))) (hl : ys.length ≤ 9223372036854775807 := by decide) : Kd.C (Kd.int .i64) w (some ⟨g, 0, none⟩) ys.length ys := by
  refine Kd.C_of_reads (d := (0 : Int)) ⟨rfl, hl, fun _ => ⟨_, rfl, fun j hj => ?_⟩⟩
  rw [Go.WideShapes.add_plain, Nat.zero_add, blk_cell hv]
  simp [hj]
theorem add_calls2 (W : World) (A0 : Option Addr) (c0 : Nat) (l : List Int) (x m : Int) (hC : Kd.C (Kd.int .i64) W A0 l.length l) (hc : l.length ≤ c0) (hl : l.length ≤ 1000) {r : List Int} {cd : Int} (h : addL l x m = (r, cd)) :
    Calls Try.prog 11 #[.slice A0 l.length c0, .int .i64 x, .int .i64 m] W fun e w' => ∃ A c, e = .returned (.tuple #[.slice A r.length c, .int .i64 cd]) ∧ r.length ≤ c ∧ Kd.C (Kd.int .i64) w' A r.length r ∧ Below W.heap.size W w' := by
  have hh := add_calls W A0 c0 l x m hC hc hl
  rw [h] at hh
  refine hh.mono ?_
  rintro e w' ⟨v, rfl, hR, hB⟩
  obtain ⟨A, c, rfl, h1, h2⟩ := Kd.R_reads hR
  exact ⟨A, c, rfl, h1, h2, hB⟩
set_option maxHeartbeats 1600000 in
theorem awake_calls (w : World) : Calls Try.prog 10 #[] w fun e w' => e = .returned (.bool true) ∧ Below w.heap.size w w' := by
  have hadd : addL [2, 5] 3 9 = ([2, 3, 5], 0) := by decide
  obtain ⟨ks, hks⟩ := Ev.rounds (same_ev [2, 3, 5] [2, 3, 5] (by decide))
  obtain ⟨khk5, hk5⟩ := Ev.rounds (known_ev [2, 3, 5] 5 (by decide))
  obtain ⟨khk4, hk4⟩ := Ev.rounds (known_ev [2, 3, 5] 4 (by decide))
  rw [show decide (([2, 3, 5] : List Int) = [2, 3, 5]) = true by decide] at hks
  rw [show knownB [2, 3, 5] 5 = true by decide] at hk5
  rw [show knownB [2, 3, 5] 4 = false by decide] at hk4
  have HKS := Aside0.mk hks
  have HK5 := Aside0.mk hk5
  have HK4 := Aside0.mk hk4
  clear hks hk5 hk4
  go_enter Try.func10, Try.ntmps10
  go_wp2_with (first | ((with_reducible refine gate_callee (f := 11) rfl ?_); refine goesL_ (some 5) rfl rfl Try.func11 (by kernel_rfl) rfl #[.slice (some ⟨w.heap.size, 0, none⟩) 2 2, .int .i64 3, .int .i64 9] rfl (by (try simp only [List.map_toArray, List.map_cons, List.map_nil]); first | done | rfl) ?_; (refine (add_calls2 (w.alloc (.cells #[.int .i64 2, .int .i64 5] 2)) (some ⟨w.heap.size, 0, none⟩) 2 [2, 5] 3 9 (list_C (ys := [2, 5]) (blk_new w _)) (by decide) (by decide) hadd).mono ?_); rintro e wn ⟨A1, c1, rfl, hl1, hC1, hb⟩; refine ⟨_, rfl, ?_⟩; have HL1 := Aside0.mk hl1; have HC1 := Aside0.mk hC1; clear hl1 hC1; have n0_ := Aside0.mk (below_step (below_alloc (Below.refl w.heap.size w) _) hb); clear hb; have HB := n0_; clear n0_) | (go_at_call 13; refine calls_of_args (args' := #[.slice A1 3 c1, .slice (some ⟨wn.heap.size, 0, none⟩) 3 3]) (by first | rfl) ?_; (refine (switchyardlaw16_Same.calls ks A1 c1 [2, 3, 5] (some ⟨wn.heap.size, 0, none⟩) 3 [2, 3, 5] true _ (Kd.C_alloc HC1.out _) HL1.out (list_C (ys := [2, 3, 5]) (blk_new wn _)) (by decide) HKS.out).mono ?_); rintro e wn ⟨rfl, hd⟩; have n0_ := Aside0.mk (below_step (by first | exact HB.out | exact below_alloc HB.out _) hd.below); have m0_ := Aside0.mk (Kd.C_below (by first | exact HC1.out | exact Kd.C_alloc HC1.out _) hd.below); clear HB hd; clear HC1; have HB := n0_; clear n0_; have HC1 := m0_; clear m0_) | (go_at_call 14; refine calls_of_args (args' := #[.slice A1 3 c1, .int .i64 5]) (by first | rfl) ?_; (refine (seen_Known.calls khk5 A1 c1 [2, 3, 5] 5 true _ (by first | exact HC1.out | exact Kd.C_alloc HC1.out _) HL1.out HK5.out).mono ?_); rintro e wn ⟨rfl, hd⟩; have n0_ := Aside0.mk (below_step (by first | exact HB.out | exact below_alloc HB.out _) hd.below); have m0_ := Aside0.mk (Kd.C_below (by first | exact HC1.out | exact Kd.C_alloc HC1.out _) hd.below); clear HB hd; clear HC1; have HB := n0_; clear n0_; have HC1 := m0_; clear m0_) | (go_at_call 14; refine calls_of_args (args' := #[.slice A1 3 c1, .int .i64 4]) (by first | rfl) ?_; (refine (seen_Known.calls khk4 A1 c1 [2, 3, 5] 4 false _ (by first | exact HC1.out | exact Kd.C_alloc HC1.out _) HL1.out HK4.out).mono ?_); rintro e wn ⟨rfl, hd⟩; have n0_ := Aside0.mk (below_step (by first | exact HB.out | exact below_alloc HB.out _) hd.below); have m0_ := Aside0.mk (Kd.C_below (by first | exact HC1.out | exact Kd.C_alloc HC1.out _) hd.below); clear HB hd; clear HC1; have HB := n0_; clear n0_; have HC1 := m0_; clear m0_))
  go_ret
  exact ⟨rfl, HB.out⟩
end Go.Proofs.Ytmbojmmboolagaa.XS
