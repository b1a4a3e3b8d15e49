/- SeenGrows: the law's own call answers true. No conditions. -/
import Derived.Test.YtmbojmmboolagaaSeenL3
namespace Go.Proofs.Ytmbojmmboolagaa.XS
open Go.RowKit Go.Proofs.YtmbojmmboolagaaW.PrintWords Go.Proofs.YtmbojmmboolagaaW.PrintLast Go.Proofs.YtmbojmmboolagaaW.PrintMore
set_option linter.unusedVariables false
set_option linter.unusedSimpArgs false
set_option maxHeartbeats 3200000 in
set_option maxRecDepth 100000 in
theorem grows_walk (A0 : Option Addr) (c0 : Nat) (l0 : (List Int)) (a1 : Int) (W : World) (hC0 : Kd.C (Kd.int .i64) W A0 l0.length l0) (hc0 : l0.length ≤ c0) (hG0 : (l0.length * Try.prog.bytesOf 2 ≤ 140737488351232 ∧ l0.length ≤ maxLen ∧ ∀ y ∈ l0, (Lit.int .i64 y).wf = true)) (hG1 : (Lit.int .i64 a1).wf = true) :
    Calls Try.prog 5 #[.slice A0 l0.length c0, .int .i64 a1] W fun e w' => e = .returned (.bool true) ∧ Below W.heap.size W w' := by
  have HR := Aside0.mk hC0
  have HB := Aside0.mk (Below.refl W.heap.size W)
  clear hC0
  by_cases h5 : l0.length ≤ 100
  · have d0 : decide (100 < (l0.length : Int)) = false := decide_eq_false (by omega)
    go_enter Try.func5, Try.ntmps5
    go_wp2_with (first | ((with_reducible refine gate_callee (f := 10) rfl ?_); refine goesL_ (some 18) rfl rfl Try.func10 (by kernel_rfl) rfl #[] rfl (by (try simp only [List.map_toArray, List.map_cons, List.map_nil]); first | done | rfl) ?_; (refine (awake_calls _).mono ?_); rintro e wn ⟨rfl, hb⟩; refine ⟨_, rfl, ?_⟩; have n0_ := Aside0.mk (below_step (by first | exact HB.out | exact below_alloc HB.out _) hb); clear HB hb; have HB := n0_; clear n0_))
    go_loopg [26, 5, 6] l0.length (fun kq v26 v5 v6 w' => ∃ (i : Nat) (l : List Int) (A3 : Option Addr) (c3 : Nat), v26 = .int .i64 (i : Int) ∧ v5 = .slice A3 l.length c3 ∧ v6 = .bool (decide (a1 ∈ l0.take i)) ∧ Aside0 (i + kq = l0.length) ∧ Aside0 (SetOf l (l0.take i) i) ∧ Aside0 (Kd.C (Kd.int .i64) w' A3 l.length l) ∧ Aside0 (l.length ≤ c3) ∧ Aside0 (Below W.heap.size W w'))
    case atStart => exact ⟨0, [], none, 0, rfl, rfl, by simp, ⟨by omega⟩, ⟨setOf_nil _ (by simp)⟩, ⟨C_nil _⟩, ⟨Nat.le_refl _⟩, HB⟩
    case round =>
      clear HB
      obtain ⟨i, l, A3, c3, rfl, rfl, rfl, HI, HS1, HC3, HL3, HB⟩ := hrel
      by_cases hi : i < l0.length
      · have b0 : decide ((i : Int) < (l0.length : Int)) = true := decide_eq_true (by omega)
        have hll : l.length ≤ i := HS1.out.2.2
        have HLL := Aside0.mk (show l.length ≤ 1000 by omega)
        obtain ⟨x, hxx⟩ : ∃ x, x = l0[i] := ⟨_, rfl⟩
        have HXX := Aside0.mk hxx
        obtain ⟨ad, ea, _⟩ := Kd.at_int (Kd.C_below HR.out HB.out) (i : Int) (by omega) (by omega)
        subst ea
        have hcx := cell_at (Kd.C_below HR.out HB.out) ad rfl i hi
        rw [← hxx] at hcx
        have s1 := setOf_add (x := x) (s' := l0.take (i + 1)) HS1.out (by omega) (fun z => by rw [List.take_succ_eq_append_getElem hi, List.mem_append, List.mem_singleton, hxx]; exact Or.comm)
        have hw3 : IntKind.i64.wrap ((i : Int) + 1) = ((i + 1 : Nat) : Int) := by rw [i64_w]; exact wr_succ hi (by omega)
        have p2 : ((i : Int) < (l0.length : Int)) = True := eq_true (by omega)
        have p3 : ((0 : Int) ≤ (i : Int)) = True := eq_true (by omega)
        have p4 : ((i : Int) ≤ (c0 : Int)) = True := eq_true (by omega)
        clear hxx HS1
        by_cases hx : x ∈ l0.take i
        · skip
          have HA1 := Aside0.mk (s1.1 hx).1
          have HT1 := Aside0.mk (s1.1 hx).2
          have HX := Aside0.mk hx
          clear s1 hx
          go_wp2_with (first | ((with_reducible refine gate_callee (f := 11) rfl ?_); refine goesL_ (some 34) rfl rfl Try.func11 (by kernel_rfl) rfl #[.slice A3 l.length c3, .int .i64 x, .int .i64 100] rfl (by (try simp only [List.map_toArray, List.map_cons, List.map_nil]); first | done | rfl) ?_; (refine (add_calls2 _ A3 c3 l x 100 HC3.out HL3.out HLL.out HA1.out).mono ?_); rintro e wn ⟨A5, c5, rfl, hl5, hC5, hb⟩; have HC5 := Aside0.mk hC5; have HL5 := Aside0.mk hl5; clear hC5 hl5; refine ⟨_, rfl, ?_⟩; have n0_ := Aside0.mk (below_step (by first | exact HB.out | exact below_alloc HB.out _) hb); have m0_ := Aside0.mk (Kd.C_below (by first | exact HC3.out | exact Kd.C_alloc HC3.out _) hb); clear HB hb; clear HC3; have HB := n0_; clear n0_; have HC3 := m0_; clear m0_))
          go_loopg [41, 11] i (fun kq v41 v11 w' => ∃ j : Nat, v41 = .int .i64 (j : Int) ∧ v11 = .bool (decide (x ∈ l0.take j)) ∧ Aside0 (j + kq = i) ∧ Aside0 (Kd.C (Kd.int .i64) w' A3 l.length l) ∧ Aside0 (Kd.C (Kd.int .i64) w' A5 [].length []) ∧ Aside0 (Below W.heap.size W w'))
          case atStart => exact ⟨0, rfl, by simp, ⟨by omega⟩, HC3, HC5, HB⟩
          case round =>
            clear HC3 HC5 HB hcx
            obtain ⟨j, rfl, rfl, HJ, HC3, HC5, HB⟩ := hrel
            by_cases hj : j < i
            · have b1 : decide ((j : Int) < (i : Int)) = true := decide_eq_true (by omega)
              have hjl : j < l0.length := by omega
              obtain ⟨z, hz⟩ : ∃ z, z = l0[j] := ⟨_, rfl⟩
              have hcz := cell_at (Kd.C_below HR.out HB.out) ad rfl j hjl
              rw [← hz] at hcz
              have HZ := Aside0.mk hz
              clear hz
              have hw4 : IntKind.i64.wrap ((j : Int) + 1) = ((j + 1 : Nat) : Int) := by rw [i64_w]; exact wr_succ hjl (by omega)
              have p5 : ((j : Int) < (i : Int)) = True := eq_true (by omega)
              have p6 : ((0 : Int) ≤ (j : Int)) = True := eq_true (by omega)
              have hmem : decide (x ∈ l0.take (j + 1)) = (decide (x ∈ l0.take j) || (z == x)) := by
                rw [List.take_succ_eq_append_getElem hjl, ← HZ.out, Bool.eq_iff_iff, decide_eq_true_eq, Bool.or_eq_true, decide_eq_true_eq, beq_iff_eq, List.mem_append, List.mem_singleton]
                exact or_congr Iff.rfl eq_comm
              by_cases hin : x ∈ l0.take j
              · have t0 : decide (x ∈ l0.take j) = true := decide_eq_true hin
                rw [t0, Bool.true_or] at hmem
                rw [t0]
                clear hin
                go_wp2
                go_roundg (i - (j + 1))
                case measure => have := HJ.out; omega
                case rel => exact ⟨j + 1, congrArg (Value.int .i64) (by omega), by rw [hmem], ⟨by omega⟩, HC3, HC5, HB⟩
              · have t0 : decide (x ∈ l0.take j) = false := decide_eq_false hin
                rw [t0, Bool.false_or] at hmem
                rw [t0]
                clear hin
                go_wp2
                go_roundg (i - (j + 1))
                case measure => have := HJ.out; omega
                case rel => exact ⟨j + 1, congrArg (Value.int .i64) (by omega), by rw [hmem], ⟨by omega⟩, HC3, HC5, HB⟩
            · have hj' : j = i := by have := HJ.out; omega
              have b1 : decide ((j : Int) < (i : Int)) = false := decide_eq_false (by omega)
              subst hj'
              have t0 : decide (x ∈ l0.take j) = true := decide_eq_true HX.out
              rw [t0]
              have hmem : decide (a1 ∈ l0.take (j + 1)) = (decide (a1 ∈ l0.take j) || (x == a1)) := by
                rw [List.take_succ_eq_append_getElem hi, ← HXX.out, Bool.eq_iff_iff, decide_eq_true_eq, Bool.or_eq_true, decide_eq_true_eq, beq_iff_eq, List.mem_append, List.mem_singleton]
                exact or_congr Iff.rfl eq_comm
              by_cases hin : a1 ∈ l0.take j
              · have t1 : decide (a1 ∈ l0.take j) = true := decide_eq_true hin
                rw [t1, Bool.true_or] at hmem
                simp only [t1]
                clear hin
                go_wp2
                go_roundg (l0.length - (j + 1))
                case measure => have := HI.out; omega
                case rel => exact ⟨j + 1, l, A3, c3, congrArg (Value.int .i64) (by omega), rfl, by rw [hmem], ⟨by omega⟩, HT1, HC3, HL3, HB⟩
              · have t1 : decide (a1 ∈ l0.take j) = false := decide_eq_false hin
                rw [t1, Bool.false_or] at hmem
                simp only [t1]
                clear hin
                go_wp2
                go_roundg (l0.length - (j + 1))
                case measure => have := HI.out; omega
                case rel => exact ⟨j + 1, l, A3, c3, congrArg (Value.int .i64) (by omega), rfl, by rw [hmem], ⟨by omega⟩, HT1, HC3, HL3, HB⟩
        · skip
          have HA1 := Aside0.mk (s1.2 hx).1
          have HT1 := Aside0.mk (s1.2 hx).2
          have HX := Aside0.mk hx
          clear s1 hx
          go_wp2_with (first | ((with_reducible refine gate_callee (f := 11) rfl ?_); refine goesL_ (some 34) rfl rfl Try.func11 (by kernel_rfl) rfl #[.slice A3 l.length c3, .int .i64 x, .int .i64 100] rfl (by (try simp only [List.map_toArray, List.map_cons, List.map_nil]); first | done | rfl) ?_; (refine (add_calls2 _ A3 c3 l x 100 HC3.out HL3.out HLL.out HA1.out).mono ?_); rintro e wn ⟨A5, c5, rfl, hl5, hC5, hb⟩; have HC5 := Aside0.mk hC5; have HL5 := Aside0.mk hl5; clear hC5 hl5; refine ⟨_, rfl, ?_⟩; have n0_ := Aside0.mk (below_step (by first | exact HB.out | exact below_alloc HB.out _) hb); have m0_ := Aside0.mk (Kd.C_below (by first | exact HC3.out | exact Kd.C_alloc HC3.out _) hb); clear HB hb; clear HC3; have HB := n0_; clear n0_; have HC3 := m0_; clear m0_))
          go_loopg [41, 11] i (fun kq v41 v11 w' => ∃ j : Nat, v41 = .int .i64 (j : Int) ∧ v11 = .bool (decide (x ∈ l0.take j)) ∧ Aside0 (j + kq = i) ∧ Aside0 (Kd.C (Kd.int .i64) w' A3 l.length l) ∧ Aside0 (Kd.C (Kd.int .i64) w' A5 (insS l x).length (insS l x)) ∧ Aside0 (Below W.heap.size W w'))
          case atStart => exact ⟨0, rfl, by simp, ⟨by omega⟩, HC3, HC5, HB⟩
          case round =>
            clear HC3 HC5 HB hcx
            obtain ⟨j, rfl, rfl, HJ, HC3, HC5, HB⟩ := hrel
            by_cases hj : j < i
            · have b1 : decide ((j : Int) < (i : Int)) = true := decide_eq_true (by omega)
              have hjl : j < l0.length := by omega
              obtain ⟨z, hz⟩ : ∃ z, z = l0[j] := ⟨_, rfl⟩
              have hcz := cell_at (Kd.C_below HR.out HB.out) ad rfl j hjl
              rw [← hz] at hcz
              have HZ := Aside0.mk hz
              clear hz
              have hw4 : IntKind.i64.wrap ((j : Int) + 1) = ((j + 1 : Nat) : Int) := by rw [i64_w]; exact wr_succ hjl (by omega)
              have p5 : ((j : Int) < (i : Int)) = True := eq_true (by omega)
              have p6 : ((0 : Int) ≤ (j : Int)) = True := eq_true (by omega)
              have hmem : decide (x ∈ l0.take (j + 1)) = (decide (x ∈ l0.take j) || (z == x)) := by
                rw [List.take_succ_eq_append_getElem hjl, ← HZ.out, Bool.eq_iff_iff, decide_eq_true_eq, Bool.or_eq_true, decide_eq_true_eq, beq_iff_eq, List.mem_append, List.mem_singleton]
                exact or_congr Iff.rfl eq_comm
              by_cases hin : x ∈ l0.take j
              · have t0 : decide (x ∈ l0.take j) = true := decide_eq_true hin
                rw [t0, Bool.true_or] at hmem
                rw [t0]
                clear hin
                go_wp2
                go_roundg (i - (j + 1))
                case measure => have := HJ.out; omega
                case rel => exact ⟨j + 1, congrArg (Value.int .i64) (by omega), by rw [hmem], ⟨by omega⟩, HC3, HC5, HB⟩
              · have t0 : decide (x ∈ l0.take j) = false := decide_eq_false hin
                rw [t0, Bool.false_or] at hmem
                rw [t0]
                clear hin
                go_wp2
                go_roundg (i - (j + 1))
                case measure => have := HJ.out; omega
                case rel => exact ⟨j + 1, congrArg (Value.int .i64) (by omega), by rw [hmem], ⟨by omega⟩, HC3, HC5, HB⟩
            · have hj' : j = i := by have := HJ.out; omega
              have b1 : decide ((j : Int) < (i : Int)) = false := decide_eq_false (by omega)
              subst hj'
              have t0 : decide (x ∈ l0.take j) = false := decide_eq_false HX.out
              rw [t0]
              have hmem : decide (a1 ∈ l0.take (j + 1)) = (decide (a1 ∈ l0.take j) || (x == a1)) := by
                rw [List.take_succ_eq_append_getElem hi, ← HXX.out, Bool.eq_iff_iff, decide_eq_true_eq, Bool.or_eq_true, decide_eq_true_eq, beq_iff_eq, List.mem_append, List.mem_singleton]
                exact or_congr Iff.rfl eq_comm
              by_cases hin : a1 ∈ l0.take j
              · have t1 : decide (a1 ∈ l0.take j) = true := decide_eq_true hin
                rw [t1, Bool.true_or] at hmem
                simp only [t1]
                clear hin
                go_wp2
                go_roundg (l0.length - (j + 1))
                case measure => have := HI.out; omega
                case rel => exact ⟨j + 1, (insS l x), A5, c5, congrArg (Value.int .i64) (by omega), rfl, by rw [hmem], ⟨by omega⟩, HT1, HC5, HL5, HB⟩
              · have t1 : decide (a1 ∈ l0.take j) = false := decide_eq_false hin
                rw [t1, Bool.false_or] at hmem
                simp only [t1]
                clear hin
                go_wp2
                go_roundg (l0.length - (j + 1))
                case measure => have := HI.out; omega
                case rel => exact ⟨j + 1, (insS l x), A5, c5, congrArg (Value.int .i64) (by omega), rfl, by rw [hmem], ⟨by omega⟩, HT1, HC5, HL5, HB⟩
      · have hi' : i = l0.length := by have := HI.out; omega
        have b0 : decide ((i : Int) < (l0.length : Int)) = false := decide_eq_false (by omega)
        have hll : l.length ≤ i := HS1.out.2.2
        have HLL := Aside0.mk (show l.length ≤ 1000 by omega)
        subst hi'
        rw [List.take_length] at *
        obtain ⟨hS1, hS2, _⟩ := HS1.out
        go_wp2
        go_loopg [76] l0.length (fun kq v76 w' => ∃ j : Nat, v76 = .int .i64 (j : Int) ∧ Aside0 (j + kq = l0.length) ∧ Aside0 (Kd.C (Kd.int .i64) w' A3 l.length l) ∧ Aside0 (Below W.heap.size W w'))
        case atStart => exact ⟨0, rfl, ⟨by omega⟩, HC3, HB⟩
        case round =>
          clear HC3 HB
          obtain ⟨j, rfl, HJ, HC3, HB⟩ := hrel
          by_cases hj : j < l0.length
          · have b1 : decide ((j : Int) < (l0.length : Int)) = true := decide_eq_true (by omega)
            obtain ⟨x, hxx⟩ : ∃ x, x = l0[j] := ⟨_, rfl⟩
            obtain ⟨ad, ea, _⟩ := Kd.at_int (Kd.C_below HR.out HB.out) (j : Int) (by omega) (by omega)
            subst ea
            have hcx := cell_at (Kd.C_below HR.out HB.out) ad rfl j hj
            rw [← hxx] at hcx
            obtain ⟨kn, hkn⟩ := Ev.rounds (known_ev l x (by have := HLL.out; omega))
            rw [show knownB l x = true by unfold knownB; rw [decide_eq_true_eq]; exact ⟨hS1, (hS2 x).2 (by rw [hxx]; exact List.getElem_mem hj)⟩] at hkn
            have HKN := Aside0.mk hkn
            clear hkn hxx
            have hw4 : IntKind.i64.wrap ((j : Int) + 1) = ((j + 1 : Nat) : Int) := by rw [i64_w]; exact wr_succ hj (by omega)
            have p5 : ((j : Int) < (l0.length : Int)) = True := eq_true (by omega)
            have p6 : ((0 : Int) ≤ (j : Int)) = True := eq_true (by omega)
            go_wp2_with (first | ((with_reducible refine gate_callee (f := 14) rfl ?_); refine goesL_ (some 82) rfl rfl Try.func14 (by kernel_rfl) rfl #[.slice A3 l.length c3, .int .i64 x] rfl (by (try simp only [List.map_toArray, List.map_cons, List.map_nil]); first | done | rfl) ?_; (refine (seen_Known.calls kn A3 c3 l x true _ HC3.out HL3.out HKN.out).mono ?_); rintro e wn ⟨rfl, hd⟩; refine ⟨_, rfl, ?_⟩; have n0_ := Aside0.mk (below_step (by first | exact HB.out | exact below_alloc HB.out _) hd.below); have m0_ := Aside0.mk (Kd.C_below (by first | exact HC3.out | exact Kd.C_alloc HC3.out _) hd.below); clear HB hd; clear HC3; have HB := n0_; clear n0_; have HC3 := m0_; clear m0_))
            go_roundg (l0.length - (j + 1))
            case measure => have := HJ.out; omega
            case rel => exact ⟨j + 1, congrArg (Value.int .i64) (by omega), ⟨by omega⟩, HC3, HB⟩
          · have hj' : j = l0.length := by have := HJ.out; omega
            have b1 : decide ((j : Int) < (l0.length : Int)) = false := decide_eq_false (by omega)
            obtain ⟨kr, hkr⟩ := Ev.rounds (right_ev l (by have := HLL.out; omega))
            rw [decide_eq_true hS1] at hkr
            have HKR := Aside0.mk hkr
            obtain ⟨kk, hkk⟩ := Ev.rounds (known_ev l a1 (by have := HLL.out; omega))
            clear hkr
            by_cases ho : a1 ∈ l0
            · have t1 : decide (a1 ∈ l0) = true := decide_eq_true ho
              have hal : a1 ∈ l := (hS2 a1).2 ho
              simp only [t1]
              have HA2 := Aside0.mk (show addL l a1 (l.length : Int) = ([], 45) by unfold addL; rw [if_neg (by simp [hS1]), if_pos hal])
              rw [show knownB l a1 = true by unfold knownB; simp [hS1, hal]] at hkk
              have HKK := Aside0.mk hkk
              clear hkk
              go_wp2_with (first | ((with_reducible refine gate_callee (f := 11) rfl ?_); refine goesL_ (some 90) rfl rfl Try.func11 (by kernel_rfl) rfl #[.slice A3 l.length c3, .int .i64 a1, .int .i64 (l.length : Int)] rfl (by (try simp only [List.map_toArray, List.map_cons, List.map_nil]); first | done | rfl) ?_; (refine (add_calls2 _ A3 c3 l a1 (l.length : Int) HC3.out HL3.out HLL.out HA2.out).mono ?_); rintro e wn ⟨A6, c6, rfl, hl6, hC6, hb⟩; clear hC6 hl6; refine ⟨_, rfl, ?_⟩; have n0_ := Aside0.mk (below_step (by first | exact HB.out | exact below_alloc HB.out _) hb); have m0_ := Aside0.mk (Kd.C_below (by first | exact HC3.out | exact Kd.C_alloc HC3.out _) hb); clear HB hb; clear HC3; have HB := n0_; clear n0_; have HC3 := m0_; clear m0_) | ((with_reducible refine gate_callee (f := 10) rfl ?_); refine goesL_ (some 93) rfl rfl Try.func10 (by kernel_rfl) rfl #[] rfl (by (try simp only [List.map_toArray, List.map_cons, List.map_nil]); first | done | rfl) ?_; (refine (awake_calls _).mono ?_); rintro e wn ⟨rfl, hb⟩; refine ⟨_, rfl, ?_⟩; have n0_ := Aside0.mk (below_step (by first | exact HB.out | exact below_alloc HB.out _) hb); have m0_ := Aside0.mk (Kd.C_below (by first | exact HC3.out | exact Kd.C_alloc HC3.out _) hb); clear HB hb; clear HC3; have HB := n0_; clear n0_; have HC3 := m0_; clear m0_) | (go_at_call 16; refine calls_of_args (args' := #[.slice A3 l.length c3]) (by first | rfl) ?_; (refine (seen_Right.calls kr A3 c3 l true _ HC3.out HL3.out HKR.out).mono ?_); rintro e wn ⟨rfl, hd⟩; have n0_ := Aside0.mk (below_step (by first | exact HB.out | exact below_alloc HB.out _) hd.below); have m0_ := Aside0.mk (Kd.C_below (by first | exact HC3.out | exact Kd.C_alloc HC3.out _) hd.below); clear HB hd; clear HC3; have HB := n0_; clear n0_; have HC3 := m0_; clear m0_) | (go_at_call 14; refine calls_of_args (args' := #[.slice A3 l.length c3, .int .i64 a1]) (by first | rfl) ?_; (refine (seen_Known.calls kk A3 c3 l a1 true _ HC3.out HL3.out HKK.out).mono ?_); rintro e wn ⟨rfl, hd⟩; have n0_ := Aside0.mk (below_step (by first | exact HB.out | exact below_alloc HB.out _) hd.below); have m0_ := Aside0.mk (Kd.C_below (by first | exact HC3.out | exact Kd.C_alloc HC3.out _) hd.below); clear HB hd; clear HC3; have HB := n0_; clear n0_; have HC3 := m0_; clear m0_))
              go_ret
              exact ⟨rfl, HB.out⟩
            · have t1 : decide (a1 ∈ l0) = false := decide_eq_false ho
              have hal : ¬ a1 ∈ l := fun h => ho ((hS2 a1).1 h)
              simp only [t1]
              have HA2 := Aside0.mk (show addL l a1 (l.length : Int) = ([], 42) by unfold addL; rw [if_neg (by simp [hS1]), if_neg hal, if_pos (by omega)])
              rw [show knownB l a1 = false by unfold knownB; simp [hS1, hal]] at hkk
              have HKK := Aside0.mk hkk
              clear hkk
              go_wp2_with (first | ((with_reducible refine gate_callee (f := 11) rfl ?_); refine goesL_ (some 90) rfl rfl Try.func11 (by kernel_rfl) rfl #[.slice A3 l.length c3, .int .i64 a1, .int .i64 (l.length : Int)] rfl (by (try simp only [List.map_toArray, List.map_cons, List.map_nil]); first | done | rfl) ?_; (refine (add_calls2 _ A3 c3 l a1 (l.length : Int) HC3.out HL3.out HLL.out HA2.out).mono ?_); rintro e wn ⟨A6, c6, rfl, hl6, hC6, hb⟩; clear hC6 hl6; refine ⟨_, rfl, ?_⟩; have n0_ := Aside0.mk (below_step (by first | exact HB.out | exact below_alloc HB.out _) hb); have m0_ := Aside0.mk (Kd.C_below (by first | exact HC3.out | exact Kd.C_alloc HC3.out _) hb); clear HB hb; clear HC3; have HB := n0_; clear n0_; have HC3 := m0_; clear m0_) | ((with_reducible refine gate_callee (f := 10) rfl ?_); refine goesL_ (some 93) rfl rfl Try.func10 (by kernel_rfl) rfl #[] rfl (by (try simp only [List.map_toArray, List.map_cons, List.map_nil]); first | done | rfl) ?_; (refine (awake_calls _).mono ?_); rintro e wn ⟨rfl, hb⟩; refine ⟨_, rfl, ?_⟩; have n0_ := Aside0.mk (below_step (by first | exact HB.out | exact below_alloc HB.out _) hb); have m0_ := Aside0.mk (Kd.C_below (by first | exact HC3.out | exact Kd.C_alloc HC3.out _) hb); clear HB hb; clear HC3; have HB := n0_; clear n0_; have HC3 := m0_; clear m0_) | (go_at_call 16; refine calls_of_args (args' := #[.slice A3 l.length c3]) (by first | rfl) ?_; (refine (seen_Right.calls kr A3 c3 l true _ HC3.out HL3.out HKR.out).mono ?_); rintro e wn ⟨rfl, hd⟩; have n0_ := Aside0.mk (below_step (by first | exact HB.out | exact below_alloc HB.out _) hd.below); have m0_ := Aside0.mk (Kd.C_below (by first | exact HC3.out | exact Kd.C_alloc HC3.out _) hd.below); clear HB hd; clear HC3; have HB := n0_; clear n0_; have HC3 := m0_; clear m0_) | (go_at_call 14; refine calls_of_args (args' := #[.slice A3 l.length c3, .int .i64 a1]) (by first | rfl) ?_; (refine (seen_Known.calls kk A3 c3 l a1 false _ HC3.out HL3.out HKK.out).mono ?_); rintro e wn ⟨rfl, hd⟩; have n0_ := Aside0.mk (below_step (by first | exact HB.out | exact below_alloc HB.out _) hd.below); have m0_ := Aside0.mk (Kd.C_below (by first | exact HC3.out | exact Kd.C_alloc HC3.out _) hd.below); clear HB hd; clear HC3; have HB := n0_; clear n0_; have HC3 := m0_; clear m0_))
              go_ret
              exact ⟨rfl, HB.out⟩
  · have d0 : decide (100 < (l0.length : Int)) = true := decide_eq_true (by omega)
    go_enter Try.func5, Try.ntmps5
    go_wp2_with (first | ((with_reducible refine gate_callee (f := 10) rfl ?_); refine goesL_ (some 18) rfl rfl Try.func10 (by kernel_rfl) rfl #[] rfl (by (try simp only [List.map_toArray, List.map_cons, List.map_nil]); first | done | rfl) ?_; (refine (awake_calls _).mono ?_); rintro e wn ⟨rfl, hb⟩; refine ⟨_, rfl, ?_⟩; have n0_ := Aside0.mk (below_step (by first | exact HB.out | exact below_alloc HB.out _) hb); clear HB hb; have HB := n0_; clear n0_) | ((with_reducible refine gate_callee (f := 10) rfl ?_); refine goesL_ (some 23) rfl rfl Try.func10 (by kernel_rfl) rfl #[] rfl (by (try simp only [List.map_toArray, List.map_cons, List.map_nil]); first | done | rfl) ?_; (refine (awake_calls _).mono ?_); rintro e wn ⟨rfl, hb⟩; refine ⟨_, rfl, ?_⟩; have n0_ := Aside0.mk (below_step (by first | exact HB.out | exact below_alloc HB.out _) hb); clear HB hb; have HB := n0_; clear n0_))
    go_ret
    exact ⟨rfl, HB.out⟩
end Go.Proofs.Ytmbojmmboolagaa.XS
