/- seen.Add: its contract, over the printed contracts of its callees and slices.Insert's. Conditions: those that the statement names. -/
import Derived.Test.YtmbojmmboolagaaSeenP
import Derived.Test.YtmbojmmboolagaaInsC
namespace Go.Proofs.Ytmbojmmboolagaa.XS
open Go.RowKit Go.Proofs.YtmbojmmboolagaaW.PrintWords Go.Proofs.YtmbojmmboolagaaW.PrintLast Go.Proofs.YtmbojmmboolagaaW.PrintMore
set_option linter.unusedVariables false
set_option linter.unusedSimpArgs false
theorem below_trans0 {B : Nat} {w w1 w2 : World} (h1 : Below B w w1) (h2 : Below B w1 w2) : Below B w w2 :=
  ⟨h2.os.trans h1.os, h2.tape.trans h1.tape, h2.output.trans h1.output, Nat.le_trans h1.size h2.size, fun k hk => (h2.block k hk).trans (h1.block k hk)⟩
set_option maxHeartbeats 1600000 in
theorem add_calls (W : World) (A0 : Option Addr) (c0 : Nat) (l : List Int) (x m : Int) (hC : Kd.C (Kd.int .i64) W A0 l.length l) (hc : l.length ≤ c0) (hl : l.length ≤ 1000) :
    Calls Try.prog 11 #[.slice A0 l.length c0, .int .i64 x, .int .i64 m] W fun e w' => ∃ v, e = .returned (.tuple #[v, .int .i64 (addL l x m).2]) ∧ Kd.R (Kd.int .i64) 2 w' W.heap.size (fun _ => True) v (addL l x m).1 ∧ Below W.heap.size W w' := by
  obtain ⟨a, ok, ha, hbs, hcut⟩ := bs_ev l x (by omega)
  obtain ⟨kb, hk1⟩ := Ev.rounds hbs
  obtain ⟨kr, hk2⟩ := Ev.rounds (right_ev l (by omega))
  have HK1 := Aside0.mk hk1
  have HR := Aside0.mk hC
  have HB := Aside0.mk (Below.refl W.heap.size W)
  clear hk1 hbs hC
  unfold addL
  by_cases hr : Rise l
  · rw [decide_eq_true hr] at hk2
    have HK2 := Aside0.mk hk2
    clear hk2
    rw [if_neg (by simp [hr])]
    obtain ⟨q1, q2, q3⟩ := hcut hr
    clear hcut
    by_cases hm : x ∈ l
    · rw [decide_eq_true hm] at q3
      subst q3
      rw [if_pos hm]
      clear q1 q2 hm hr
      go_enter Try.func11, Try.ntmps11
      go_wp2_with (first | ((with_reducible refine gate_callee (f := 18) rfl ?_); refine goesL_ (some 13) rfl rfl Try.func18 (by kernel_rfl) rfl #[.slice A0 l.length c0, .int .i64 x] rfl (by (try simp only [List.map_toArray, List.map_cons, List.map_nil]); first | done | rfl) ?_; (with_reducible refine (slices_BinarySearch_int64_int64.calls kb A0 c0 l x (a : Int) true _ (Kd.C_below HR.out HB.out) hc HK1.out).mono ?_); rintro e wn ⟨rfl, hd⟩; refine ⟨_, rfl, ?_⟩; have n0_ := Aside0.mk (below_step HB.out hd.below); clear HB hd; have HB := n0_; clear n0_) | ((with_reducible refine gate_callee (f := 16) rfl ?_); refine goesL_ (some 18) rfl rfl Try.func16 (by kernel_rfl) rfl #[.slice A0 l.length c0] rfl (by (try simp only [List.map_toArray, List.map_cons, List.map_nil]); first | done | rfl) ?_; (with_reducible refine (seen_Right.calls kr A0 c0 l true _ (Kd.C_below HR.out HB.out) hc HK2.out).mono ?_); rintro e wn ⟨rfl, hd⟩; refine ⟨_, rfl, ?_⟩; have n0_ := Aside0.mk (below_step HB.out hd.below); clear HB hd; have HB := n0_; clear n0_))
      (try simp only [Exit.inBlock, Exit.then])
      refine bodyPost_ret (results_tmp2 rfl _ _ _) rfl ?_
      exact ⟨_, rfl, Kd.R_nil _ _ _ _ _, HB.out⟩
    · rw [decide_eq_false hm] at q3
      subst q3
      rw [if_neg hm]
      by_cases hq : (l.length : Int) ≥ m
      · rw [if_pos hq]
        have hq1 : decide (m ≤ (l.length : Int)) = true := decide_eq_true hq
        clear q1 q2 hm hr
        go_enter Try.func11, Try.ntmps11
        go_wp2_with (first | ((with_reducible refine gate_callee (f := 18) rfl ?_); refine goesL_ (some 13) rfl rfl Try.func18 (by kernel_rfl) rfl #[.slice A0 l.length c0, .int .i64 x] rfl (by (try simp only [List.map_toArray, List.map_cons, List.map_nil]); first | done | rfl) ?_; (with_reducible refine (slices_BinarySearch_int64_int64.calls kb A0 c0 l x (a : Int) false _ (Kd.C_below HR.out HB.out) hc HK1.out).mono ?_); rintro e wn ⟨rfl, hd⟩; refine ⟨_, rfl, ?_⟩; have n0_ := Aside0.mk (below_step HB.out hd.below); clear HB hd; have HB := n0_; clear n0_) | ((with_reducible refine gate_callee (f := 16) rfl ?_); refine goesL_ (some 18) rfl rfl Try.func16 (by kernel_rfl) rfl #[.slice A0 l.length c0] rfl (by (try simp only [List.map_toArray, List.map_cons, List.map_nil]); first | done | rfl) ?_; (with_reducible refine (seen_Right.calls kr A0 c0 l true _ (Kd.C_below HR.out HB.out) hc HK2.out).mono ?_); rintro e wn ⟨rfl, hd⟩; refine ⟨_, rfl, ?_⟩; have n0_ := Aside0.mk (below_step HB.out hd.below); clear HB hd; have HB := n0_; clear n0_))
        (try simp only [Exit.inBlock, Exit.then])
        refine bodyPost_ret (results_tmp2 rfl _ _ _) rfl ?_
        exact ⟨_, rfl, Kd.R_nil _ _ _ _ _, HB.out⟩
      · rw [if_neg hq]
        have hq1 : decide (m ≤ (l.length : Int)) = false := decide_eq_false hq
        have hfin := cut_at l x a ha q1 q2 hm
        rw [← hfin]
        have HK3 := Aside0.mk (show slices_Clone_int64_int64.f l = some l by unfold slices_Clone_int64_int64.f; rw [if_pos (by omega)])
        clear q1 q2 hm hr hfin
        go_enter Try.func11, Try.ntmps11
        go_wp2_with (first | ((with_reducible refine gate_callee (f := 18) rfl ?_); refine goesL_ (some 13) rfl rfl Try.func18 (by kernel_rfl) rfl #[.slice A0 l.length c0, .int .i64 x] rfl (by (try simp only [List.map_toArray, List.map_cons, List.map_nil]); first | done | rfl) ?_; (with_reducible refine (slices_BinarySearch_int64_int64.calls kb A0 c0 l x (a : Int) false _ (Kd.C_below HR.out HB.out) hc HK1.out).mono ?_); rintro e wn ⟨rfl, hd⟩; refine ⟨_, rfl, ?_⟩; have n0_ := Aside0.mk (below_step HB.out hd.below); clear HB hd; have HB := n0_; clear n0_) | ((with_reducible refine gate_callee (f := 16) rfl ?_); refine goesL_ (some 18) rfl rfl Try.func16 (by kernel_rfl) rfl #[.slice A0 l.length c0] rfl (by (try simp only [List.map_toArray, List.map_cons, List.map_nil]); first | done | rfl) ?_; (with_reducible refine (seen_Right.calls kr A0 c0 l true _ (Kd.C_below HR.out HB.out) hc HK2.out).mono ?_); rintro e wn ⟨rfl, hd⟩; refine ⟨_, rfl, ?_⟩; have n0_ := Aside0.mk (below_step HB.out hd.below); clear HB hd; have HB := n0_; clear n0_) | ((with_reducible refine gate_callee (f := 20) rfl ?_); refine goesL_ (some 28) rfl rfl Try.func20 (by kernel_rfl) rfl #[.slice A0 l.length c0] rfl (by (try simp only [List.map_toArray, List.map_cons, List.map_nil]); first | done | rfl) ?_; (with_reducible refine (slices_Clone_int64_int64.calls A0 c0 l l _ (Kd.C_below HR.out HB.out) hc HK3.out).mono ?_); rintro e wn ⟨v1, rfl, hR1, hb⟩; obtain ⟨A1, c1, rfl, hl1, hC1⟩ := Kd.R_reads hR1; have HL1 := Aside0.mk hl1; have HR1 := Aside0.mk (Kd.R_mono (Kd.R_bound (Kd.R_lower hR1 HB.out.size)) (fun k hk => (show k ≠ wn.heap.size by have := hk.2.2.1; omega))); have n0_ := Aside0.mk (below_step HB.out hb); clear HB hb hR1 hC1 hl1; have HB := n0_; clear n0_; refine ⟨_, rfl, ?_⟩; skip) | ((with_reducible refine gate_callee (f := 19) rfl ?_); refine goesL_ (some 32) rfl rfl Try.func19 (by kernel_rfl) rfl #[.slice A1 l.length c1, .int .i64 (a : Int), .slice (some ⟨wn.heap.size, 0, none⟩) 1 1] rfl (by (try simp only [List.map_toArray, List.map_cons, List.map_nil]); first | done | rfl) ?_; (with_reducible refine (ins_calls (wn.alloc (.cells #[.int .i64 x] 2)) W.heap.size (Nat.le_trans HB.out.size (below_alloc (Below.refl wn.heap.size wn) _).size) l x a ha (by omega) A1 c1 wn.heap.size HL1.out (Kd.R_below HR1.out (below_alloc (Below.refl wn.heap.size wn) _)) (blk_new wn _)).mono ?_); rintro e wm ⟨v2, rfl, hR2, hb2⟩; refine ⟨_, rfl, ?_⟩; have HR2 := Aside0.mk hR2; have n0_ := Aside0.mk (below_trans0 (below_alloc HB.out _) hb2); clear HB hb2 hR2; have HB := n0_; clear n0_))
        (try simp only [Exit.inBlock, Exit.then])
        refine bodyPost_ret (results_tmp2 rfl _ _ _) rfl ?_
        exact ⟨_, rfl, HR2.out, HB.out⟩
  · rw [decide_eq_false hr] at hk2
    have HK2 := Aside0.mk hk2
    clear hk2 hcut
    rw [if_pos hr]
    clear hr
    go_enter Try.func11, Try.ntmps11
    go_wp2_with (first | ((with_reducible refine gate_callee (f := 18) rfl ?_); refine goesL_ (some 13) rfl rfl Try.func18 (by kernel_rfl) rfl #[.slice A0 l.length c0, .int .i64 x] rfl (by (try simp only [List.map_toArray, List.map_cons, List.map_nil]); first | done | rfl) ?_; (with_reducible refine (slices_BinarySearch_int64_int64.calls kb A0 c0 l x (a : Int) ok _ (Kd.C_below HR.out HB.out) hc HK1.out).mono ?_); rintro e wn ⟨rfl, hd⟩; refine ⟨_, rfl, ?_⟩; have n0_ := Aside0.mk (below_step HB.out hd.below); clear HB hd; have HB := n0_; clear n0_) | ((with_reducible refine gate_callee (f := 16) rfl ?_); refine goesL_ (some 18) rfl rfl Try.func16 (by kernel_rfl) rfl #[.slice A0 l.length c0] rfl (by (try simp only [List.map_toArray, List.map_cons, List.map_nil]); first | done | rfl) ?_; (with_reducible refine (seen_Right.calls kr A0 c0 l false _ (Kd.C_below HR.out HB.out) hc HK2.out).mono ?_); rintro e wn ⟨rfl, hd⟩; refine ⟨_, rfl, ?_⟩; have n0_ := Aside0.mk (below_step HB.out hd.below); clear HB hd; have HB := n0_; clear n0_))
    (try simp only [Exit.inBlock, Exit.then])
    refine bodyPost_ret (results_tmp2 rfl _ _ _) rfl ?_
    exact ⟨_, rfl, Kd.R_nil _ _ _ _ _, HB.out⟩
end Go.Proofs.Ytmbojmmboolagaa.XS
