/- SeenAdds: the law's own call answers true. No conditions. -/
import Derived.Test.YtmbojmmboolagaaSeenW
import Derived.Test.YtmbojmmboolagaaOpen
namespace Go.Proofs.Ytmbojmmboolagaa.XS
open Go.RowKit Go.Proofs.YtmbojmmboolagaaW.PrintWords Go.Proofs.YtmbojmmboolagaaW.PrintLast Go.Proofs.YtmbojmmboolagaaW.PrintMore
set_option linter.unusedVariables false
set_option linter.unusedSimpArgs false
set_option maxHeartbeats 1600000 in
theorem adds_walk (A0 : Option Addr) (c0 : Nat) (l0 : (List Int)) (a1 : Int) (a2 : Int) (W : World) (hC0 : Kd.C (Kd.int .i64) W A0 l0.length l0) (hc0 : l0.length ≤ c0) (hG0 : (l0.length * Try.prog.bytesOf 2 ≤ 140737488351232 ∧ l0.length ≤ maxLen ∧ ∀ y ∈ l0, (Lit.int .i64 y).wf = true)) (hG1 : (Lit.int .i64 a1).wf = true) (hG2 : (Lit.int .i64 a2).wf = true) :
    Calls Try.prog 4 #[.slice A0 l0.length c0, .int .i64 a1, .int .i64 a2] W fun e w' => e = .returned (.bool true) ∧ Below W.heap.size W w' := by
  have HR := Aside0.mk hC0
  have HB := Aside0.mk (Below.refl W.heap.size W)
  clear hC0
  by_cases h5 : l0.length ≤ 500
  · obtain ⟨r, cd, hadd⟩ : ∃ r cd, addL l0 a1 a2 = (r, cd) := ⟨_, _, rfl⟩
    obtain ⟨kb, hkb⟩ : ∃ b, b = knownB l0 a1 := ⟨_, rfl⟩
    obtain ⟨rb, hrb⟩ : ∃ b, b = decide (Rise l0) := ⟨_, rfl⟩
    have hrl : r.length ≤ 4611686018427387904 := by
      have e : r = (addL l0 a1 a2).1 := by rw [hadd]
      rw [e]
      unfold addL
      have h1 := below_len l0 a1
      have h2 := above_len l0 a1
      repeat' split
      all_goals (simp [insS]; try omega)
    obtain ⟨kq, h1⟩ := Ev.rounds (ref_add_ev l0 a1 a2 (by omega))
    obtain ⟨ks, h2⟩ := Ev.rounds (same_ev r r hrl)
    obtain ⟨kn, h3⟩ := Ev.rounds (known_ev l0 a1 (by omega))
    obtain ⟨km, h4⟩ := Ev.rounds (ref_known_ev l0 a1 (by omega))
    obtain ⟨kr, h6⟩ := Ev.rounds (right_ev l0 (by omega))
    obtain ⟨kt, h7⟩ := Ev.rounds (ref_right_ev l0 (by omega))
    obtain ⟨kl, h8⟩ := Ev.rounds (same_ev l0 l0 (by omega))
    rw [hadd] at h1
    rw [decide_eq_true rfl] at h2 h8
    rw [← hkb] at h3 h4
    rw [← hrb] at h6 h7
    have HKQ := Aside0.mk h1
    have HKS := Aside0.mk h2
    have HKN := Aside0.mk h3
    have HKM := Aside0.mk h4
    have HKR := Aside0.mk h6
    have HKT := Aside0.mk h7
    have HKL := Aside0.mk h8
    clear h1 h2 h3 h4 h6 h7 h8 hkb hrb hrl
    have d0 : decide (500 < (l0.length : Int)) = false := decide_eq_false (by omega)
    go_enter Try.func4, Try.ntmps4
    go_wp2_with (first | ((with_reducible refine gate_callee (f := 10) rfl ?_); refine goesL_ (some 12) rfl rfl Try.func10 (by kernel_rfl) rfl #[] rfl (by (try simp only [List.map_toArray, List.map_cons, List.map_nil]); first | done | rfl) ?_; (refine (awake_calls _).mono ?_); rintro e wn ⟨rfl, hb⟩; refine ⟨_, rfl, ?_⟩; have n0_ := Aside0.mk (below_step (by first | exact HB.out | exact below_alloc HB.out _) hb); clear HB hb; have HB := n0_; clear n0_) | (at_builtin; refine Kd.R_append_row (Value.int .i64) 0 (h1 := fun _ => rfl) (w0 := W) W.heap.size rfl (.const (.slice none 0 0)) (.tmp 18) 30 2 (.int .i64 0) 8 rfl Try.underlying30 insInfo2 rfl (by decide) (.slice none 0 0) [] l0 A0 l0.length c0 (fun _ => True) rfl rfl (fun _ _ => trivial) (Kd.R_nil _ _ _ _ _) (Kd.C_below HR.out HB.out) HB.out HB.out.size (by simp; omega) ?_))
    intro v7 w7 hR7 hB7 hg7 hat7
    obtain ⟨A7, c7, rfl, hl7, hC7⟩ := Kd.R_reads hR7
    (try simp only [List.nil_append] at *)
    have HC7 := Aside0.mk hC7
    have HL7 := Aside0.mk hl7
    clear HB
    have HB := Aside0.mk hB7
    clear hR7 hB7 hg7 hat7 hC7 hl7
    go_wp2_with (first | ((with_reducible refine gate_callee (f := 11) rfl ?_); refine goesL_ (some 24) rfl rfl Try.func11 (by kernel_rfl) rfl #[.slice A0 l0.length c0, .int .i64 a1, .int .i64 a2] rfl (by (try simp only [List.map_toArray, List.map_cons, List.map_nil]); first | done | rfl) ?_; (refine (add_calls2 _ A0 c0 l0 a1 a2 (Kd.C_below HR.out HB.out) hc0 (by omega) hadd).mono ?_); rintro e wn ⟨A1, c1, rfl, hl1, hC1, hb⟩; have HC1 := Aside0.mk hC1; have HL1 := Aside0.mk hl1; clear hC1 hl1; refine ⟨_, rfl, ?_⟩; have n0_ := Aside0.mk (below_step (by first | exact HB.out | exact below_alloc HB.out _) hb); have m0_ := Aside0.mk (Kd.C_below (by first | exact HC7.out | exact Kd.C_alloc HC7.out _) hb); clear HB hb; clear HC7; have HB := n0_; clear n0_; have HC7 := m0_; clear m0_) | ((with_reducible refine gate_callee (f := 12) rfl ?_); refine goesL_ (some 31) rfl rfl Try.func12 (by kernel_rfl) rfl #[.slice A0 l0.length c0, .int .i64 a1, .int .i64 a2] rfl (by (try simp only [List.map_toArray, List.map_cons, List.map_nil]); first | done | rfl) ?_; (refine (switchyardref20_Add.calls kq A0 c0 l0 a1 a2 r cd _ (Kd.C_below HR.out HB.out) hc0 HKQ.out).mono ?_); rintro e wn ⟨v2, rfl, hR2, hb⟩; obtain ⟨A2, c2, rfl, hl2, hC2⟩ := Kd.R_reads hR2; have HC2 := Aside0.mk hC2; have HL2 := Aside0.mk hl2; clear hR2 hC2 hl2; refine ⟨_, rfl, ?_⟩; have n0_ := Aside0.mk (below_step (by first | exact HB.out | exact below_alloc HB.out _) hb); have m0_ := Aside0.mk (Kd.C_below (by first | exact HC7.out | exact Kd.C_alloc HC7.out _) hb); have m1_ := Aside0.mk (Kd.C_below (by first | exact HC1.out | exact Kd.C_alloc HC1.out _) hb); clear HB hb; clear HC7; clear HC1; have HB := n0_; clear n0_; have HC7 := m0_; have HC1 := m1_; clear m0_; clear m1_) | ((with_reducible refine gate_callee (f := 10) rfl ?_); refine goesL_ (some 34) rfl rfl Try.func10 (by kernel_rfl) rfl #[] rfl (by (try simp only [List.map_toArray, List.map_cons, List.map_nil]); first | done | rfl) ?_; (refine (awake_calls _).mono ?_); rintro e wn ⟨rfl, hb⟩; refine ⟨_, rfl, ?_⟩; have n0_ := Aside0.mk (below_step (by first | exact HB.out | exact below_alloc HB.out _) hb); have m0_ := Aside0.mk (Kd.C_below (by first | exact HC7.out | exact Kd.C_alloc HC7.out _) hb); have m1_ := Aside0.mk (Kd.C_below (by first | exact HC1.out | exact Kd.C_alloc HC1.out _) hb); have m2_ := Aside0.mk (Kd.C_below (by first | exact HC2.out | exact Kd.C_alloc HC2.out _) hb); clear HB hb; clear HC7; clear HC1; clear HC2; have HB := n0_; clear n0_; have HC7 := m0_; have HC1 := m1_; have HC2 := m2_; clear m0_; clear m1_; clear m2_) | (go_at_call 13; refine calls_of_args (args' := #[.slice A1 r.length c1, .slice A2 r.length c2]) (by first | rfl) ?_; (refine (switchyardlaw16_Same.calls ks A1 c1 r A2 c2 r true _ HC1.out HL1.out HC2.out HL2.out HKS.out).mono ?_); rintro e wn ⟨rfl, hd⟩; have n0_ := Aside0.mk (below_step (by first | exact HB.out | exact below_alloc HB.out _) hd.below); have m0_ := Aside0.mk (Kd.C_below (by first | exact HC7.out | exact Kd.C_alloc HC7.out _) hd.below); have m1_ := Aside0.mk (Kd.C_below (by first | exact HC1.out | exact Kd.C_alloc HC1.out _) hd.below); have m2_ := Aside0.mk (Kd.C_below (by first | exact HC2.out | exact Kd.C_alloc HC2.out _) hd.below); clear HB hd; clear HC7; clear HC1; clear HC2; have HB := n0_; clear n0_; have HC7 := m0_; have HC1 := m1_; have HC2 := m2_; clear m0_; clear m1_; clear m2_) | (go_at_call 14; refine calls_of_args (args' := #[.slice A0 l0.length c0, .int .i64 a1]) (by first | rfl) ?_; (refine (seen_Known.calls kn A0 c0 l0 a1 kb _ (Kd.C_below HR.out HB.out) hc0 HKN.out).mono ?_); rintro e wn ⟨rfl, hd⟩; have n0_ := Aside0.mk (below_step (by first | exact HB.out | exact below_alloc HB.out _) hd.below); have m0_ := Aside0.mk (Kd.C_below (by first | exact HC7.out | exact Kd.C_alloc HC7.out _) hd.below); clear HB hd; clear HC7; have HB := n0_; clear n0_; have HC7 := m0_; clear m0_) | (go_at_call 15; refine calls_of_args (args' := #[.slice A0 l0.length c0, .int .i64 a1]) (by first | rfl) ?_; (refine (switchyardref20_Known.calls km A0 c0 l0 a1 kb _ (Kd.C_below HR.out HB.out) hc0 HKM.out).mono ?_); rintro e wn ⟨rfl, hd⟩; have n0_ := Aside0.mk (below_step (by first | exact HB.out | exact below_alloc HB.out _) hd.below); have m0_ := Aside0.mk (Kd.C_below (by first | exact HC7.out | exact Kd.C_alloc HC7.out _) hd.below); clear HB hd; clear HC7; have HB := n0_; clear n0_; have HC7 := m0_; clear m0_) | (go_at_call 16; refine calls_of_args (args' := #[.slice A0 l0.length c0]) (by first | rfl) ?_; (refine (seen_Right.calls kr A0 c0 l0 rb _ (Kd.C_below HR.out HB.out) hc0 HKR.out).mono ?_); rintro e wn ⟨rfl, hd⟩; have n0_ := Aside0.mk (below_step (by first | exact HB.out | exact below_alloc HB.out _) hd.below); have m0_ := Aside0.mk (Kd.C_below (by first | exact HC7.out | exact Kd.C_alloc HC7.out _) hd.below); clear HB hd; clear HC7; have HB := n0_; clear n0_; have HC7 := m0_; clear m0_) | (go_at_call 17; refine calls_of_args (args' := #[.slice A0 l0.length c0]) (by first | rfl) ?_; (refine (switchyardref20_Right.calls kt A0 c0 l0 rb _ (Kd.C_below HR.out HB.out) hc0 HKT.out).mono ?_); rintro e wn ⟨rfl, hd⟩; have n0_ := Aside0.mk (below_step (by first | exact HB.out | exact below_alloc HB.out _) hd.below); have m0_ := Aside0.mk (Kd.C_below (by first | exact HC7.out | exact Kd.C_alloc HC7.out _) hd.below); clear HB hd; clear HC7; have HB := n0_; clear n0_; have HC7 := m0_; clear m0_) | (go_at_call 13; refine calls_of_args (args' := #[.slice A0 l0.length c0, .slice A7 l0.length c7]) (by first | rfl) ?_; (refine (switchyardlaw16_Same.calls kl A0 c0 l0 A7 c7 l0 true _ (Kd.C_below HR.out HB.out) hc0 HC7.out HL7.out HKL.out).mono ?_); rintro e wn ⟨rfl, hd⟩; have n0_ := Aside0.mk (below_step (by first | exact HB.out | exact below_alloc HB.out _) hd.below); clear HB hd; have HB := n0_; clear n0_))
    go_ret
    exact ⟨rfl, HB.out⟩
  · have d0 : decide (500 < (l0.length : Int)) = true := decide_eq_true (by omega)
    go_enter Try.func4, Try.ntmps4
    go_wp2_with (first | ((with_reducible refine gate_callee (f := 10) rfl ?_); refine goesL_ (some 12) rfl rfl Try.func10 (by kernel_rfl) rfl #[] rfl (by (try simp only [List.map_toArray, List.map_cons, List.map_nil]); first | done | rfl) ?_; (refine (awake_calls _).mono ?_); rintro e wn ⟨rfl, hb⟩; refine ⟨_, rfl, ?_⟩; have n0_ := Aside0.mk (below_step (by first | exact HB.out | exact below_alloc HB.out _) hb); clear HB hb; have HB := n0_; clear n0_) | ((with_reducible refine gate_callee (f := 10) rfl ?_); refine goesL_ (some 17) rfl rfl Try.func10 (by kernel_rfl) rfl #[] rfl (by (try simp only [List.map_toArray, List.map_cons, List.map_nil]); first | done | rfl) ?_; (refine (awake_calls _).mono ?_); rintro e wn ⟨rfl, hb⟩; refine ⟨_, rfl, ?_⟩; have n0_ := Aside0.mk (below_step (by first | exact HB.out | exact below_alloc HB.out _) hb); clear HB hb; have HB := n0_; clear n0_))
    go_ret
    exact ⟨rfl, HB.out⟩
end Go.Proofs.Ytmbojmmboolagaa.XS
