/- SeenAnyhow: the law's own call answers true. No conditions. -/
import Derived.Test.YtmbojmmboolagaaSeenW
import Derived.Test.YtmbojmmboolagaaSeenQ
import Derived.Test.YtmbojmmboolagaaOpen
import Derived.Deep.LoopGhost
namespace Go.Proofs.Ytmbojmmboolagaa.XS
open Go.RowKit Go.Proofs.YtmbojmmboolagaaW.PrintWords Go.Proofs.YtmbojmmboolagaaW.PrintLast Go.Proofs.YtmbojmmboolagaaW.PrintMore
set_option linter.unusedVariables false
set_option linter.unusedSimpArgs false
theorem cell_at {w : World} {A : Option Addr} {l : List Int} (hC : Kd.C (Kd.int .i64) w A l.length l) (ad : Addr) (hA : A = some ad) (j : Nat) (hj : j < l.length) : w.cell? (ad.add j) = some (.int .i64 l[j]) := by
  obtain ⟨ad', ea, hx⟩ := Kd.at_int hC (j : Int) (by omega) (by omega)
  rw [hA] at ea
  injection ea with ea
  subst ea
  rw [Int.toNat_natCast, rd_at hj] at hx
  exact hx
theorem C_nil (w : World) : Kd.C (Kd.int .i64) w none 0 ([] : List Int) := ⟨rfl, by decide, fun h => absurd h (by simp)⟩
set_option maxHeartbeats 3200000 in
theorem anyhow_walk (A0 : Option Addr) (c0 : Nat) (l0 : (List Int)) (W : World) (hC0 : Kd.C (Kd.int .i64) W A0 l0.length l0) (hc0 : l0.length ≤ c0) (hG0 : (l0.length * Try.prog.bytesOf 2 ≤ 140737488351232 ∧ l0.length ≤ maxLen ∧ ∀ y ∈ l0, (Lit.int .i64 y).wf = true)) :
    Calls Try.prog 6 #[.slice A0 l0.length c0] W fun e w' => e = .returned (.bool true) ∧ Below W.heap.size W w' := by
  have HR := Aside0.mk hC0
  have HB := Aside0.mk (Below.refl W.heap.size W)
  clear hC0
  by_cases h5 : l0.length ≤ 100
  · have d0 : decide (100 < (l0.length : Int)) = false := decide_eq_false (by omega)
    go_enter Try.func6, Try.ntmps6
    go_wp2_with (first | ((with_reducible refine gate_callee (f := 10) rfl ?_); refine goesL_ (some 10) rfl rfl Try.func10 (by kernel_rfl) rfl #[] rfl (by (try simp only [List.map_toArray, List.map_cons, List.map_nil]); first | done | rfl) ?_; (refine (awake_calls _).mono ?_); rintro e wn ⟨rfl, hb⟩; refine ⟨_, rfl, ?_⟩; have n0_ := Aside0.mk (below_step (by first | exact HB.out | exact below_alloc HB.out _) hb); clear HB hb; have HB := n0_; clear n0_))
    go_loopg [18, 3, 4] l0.length (fun kq v18 v3 v4 w' => ∃ (i : Nat) (l m : List Int) (A3 A4 : Option Addr) (c3 c4 : Nat), v18 = .int .i64 (i : Int) ∧ v3 = .slice A3 l.length c3 ∧ v4 = .slice A4 m.length c4 ∧ Aside0 (i + kq = l0.length) ∧ Aside0 (SetOf l (l0.take i) i) ∧ Aside0 (SetOf m (l0.drop (l0.length - i)) i) ∧ Aside0 (Kd.C (Kd.int .i64) w' A3 l.length l) ∧ Aside0 (l.length ≤ c3) ∧ Aside0 (Kd.C (Kd.int .i64) w' A4 m.length m) ∧ Aside0 (m.length ≤ c4) ∧ Aside0 (Below W.heap.size W w'))
    case atStart => exact ⟨0, [], [], none, none, 0, 0, rfl, rfl, rfl, ⟨by omega⟩, ⟨setOf_nil _ (by simp)⟩, ⟨setOf_nil _ (by simp)⟩, ⟨C_nil _⟩, ⟨Nat.le_refl _⟩, ⟨C_nil _⟩, ⟨Nat.le_refl _⟩, HB⟩
    case round =>
      clear HB
      obtain ⟨i, l, m, A3, A4, c3, c4, rfl, rfl, rfl, HI, HS1, HS2, HC3, HL3, HC4, HL4, HB⟩ := hrel
      by_cases hi : i < l0.length
      · have b0 : decide ((i : Int) < (l0.length : Int)) = true := decide_eq_true (by omega)
        have hll : l.length ≤ i := HS1.out.2.2
        have hml : m.length ≤ i := HS2.out.2.2
        have HLL := Aside0.mk (show l.length ≤ 1000 by omega)
        have HML := Aside0.mk (show m.length ≤ 1000 by omega)
        obtain ⟨q, hq⟩ : ∃ q, q = l0.length - 1 - i := ⟨_, rfl⟩
        have hq2 : q < l0.length := by omega
        obtain ⟨x, hxx⟩ : ∃ x, x = l0[i] := ⟨_, rfl⟩
        obtain ⟨y, hyy⟩ : ∃ y, y = l0[q] := ⟨_, rfl⟩
        have HYY := Aside0.mk hyy
        obtain ⟨ad, ea, _⟩ := Kd.at_int (Kd.C_below HR.out HB.out) (i : Int) (by omega) (by omega)
        subst ea
        have hcx := cell_at (Kd.C_below HR.out HB.out) ad rfl i hi
        rw [← hxx] at hcx
        have s1 := setOf_add (x := x) (s' := l0.take (i + 1)) HS1.out (by omega) (fun z => by rw [List.take_succ_eq_append_getElem hi, List.mem_append, List.mem_singleton, hxx]; exact Or.comm)
        have s2 := setOf_add (x := y) (s' := l0.drop (l0.length - (i + 1))) HS2.out (by omega) (fun z => by
          have e : l0.length - (i + 1) = q := by omega
          have e2 : q + 1 = l0.length - i := by omega
          rw [e, List.drop_eq_getElem_cons hq2, List.mem_cons, e2, hyy])
        have hw1 : IntKind.i64.wrap ((l0.length : Int) - 1) = (l0.length : Int) - 1 := by rw [i64_w]; unfold wrap64; omega
        have hw2 : IntKind.i64.wrap ((l0.length : Int) - 1 - (i : Int)) = (q : Int) := by rw [i64_w]; unfold wrap64; omega
        have hw3 : IntKind.i64.wrap ((i : Int) + 1) = ((i + 1 : Nat) : Int) := by rw [i64_w]; exact wr_succ hi (by omega)
        have p1 : ((q : Int) < (l0.length : Int)) = True := eq_true (by omega)
        have p2 : ((i : Int) < (l0.length : Int)) = True := eq_true (by omega)
        have p3 : ((0 : Int) ≤ (i : Int)) = True := eq_true (by omega)
        have p4 : ((0 : Int) ≤ (q : Int)) = True := eq_true (by omega)
        clear hxx hyy HS1 HS2 hq
        by_cases hx : x ∈ l0.take i
        · by_cases hy : y ∈ l0.drop (l0.length - i)
          · skip
            have HA1 := Aside0.mk (s1.1 hx).1
            have HA2 := Aside0.mk (s2.1 hy).1
            have HT1 := Aside0.mk (s1.1 hx).2
            have HT2 := Aside0.mk (s2.1 hy).2
            clear s1 s2 hx hy
            go_wp2_with (first | ((with_reducible refine gate_callee (f := 11) rfl ?_); refine goesL_ (some 27) rfl rfl Try.func11 (by kernel_rfl) rfl #[.slice A3 l.length c3, .int .i64 x, .int .i64 100] rfl (by (try simp only [List.map_toArray, List.map_cons, List.map_nil]); first | done | rfl) ?_; (refine (add_calls2 _ A3 c3 l x 100 HC3.out HL3.out HLL.out HA1.out).mono ?_); rintro e wn ⟨A5, c5, rfl, hl5, hC5, hb⟩; have HC5 := Aside0.mk hC5; have HL5 := Aside0.mk hl5; clear hC5 hl5; refine ⟨_, rfl, ?_⟩; have n0_ := Aside0.mk (below_step (by first | exact HB.out | exact below_alloc HB.out _) hb); have m0_ := Aside0.mk (Kd.C_below (by first | exact HC3.out | exact Kd.C_alloc HC3.out _) hb); have m1_ := Aside0.mk (Kd.C_below (by first | exact HC4.out | exact Kd.C_alloc HC4.out _) hb); clear HB hb; clear HC3; clear HC4; have HB := n0_; clear n0_; have HC3 := m0_; have HC4 := m1_; clear m0_; clear m1_; have hcy := cell_at (Kd.C_below HR.out HB.out) ad rfl q hq2; rw [← HYY.out] at hcy) | ((with_reducible refine gate_callee (f := 11) rfl ?_); refine goesL_ (some 43) rfl rfl Try.func11 (by kernel_rfl) rfl #[.slice A4 m.length c4, .int .i64 y, .int .i64 100] rfl (by (try simp only [List.map_toArray, List.map_cons, List.map_nil]); first | done | rfl) ?_; (refine (add_calls2 _ A4 c4 m y 100 HC4.out HL4.out HML.out HA2.out).mono ?_); rintro e wn ⟨A6, c6, rfl, hl6, hC6, hb⟩; have HC6 := Aside0.mk hC6; have HL6 := Aside0.mk hl6; clear hC6 hl6; refine ⟨_, rfl, ?_⟩; have n0_ := Aside0.mk (below_step (by first | exact HB.out | exact below_alloc HB.out _) hb); have m0_ := Aside0.mk (Kd.C_below (by first | exact HC3.out | exact Kd.C_alloc HC3.out _) hb); have m1_ := Aside0.mk (Kd.C_below (by first | exact HC4.out | exact Kd.C_alloc HC4.out _) hb); have m2_ := Aside0.mk (Kd.C_below (by first | exact HC5.out | exact Kd.C_alloc HC5.out _) hb); clear HB hb; clear HC3; clear HC4; clear HC5; have HB := n0_; clear n0_; have HC3 := m0_; have HC4 := m1_; have HC5 := m2_; clear m0_; clear m1_; clear m2_))
            go_roundg (l0.length - (i + 1))
            case measure => have := HI.out; omega
            case rel => exact ⟨i + 1, l, m, A3, A4, c3, c4, congrArg (Value.int .i64) (by omega), rfl, rfl, ⟨by omega⟩, HT1, HT2, HC3, HL3, HC4, HL4, HB⟩
          · skip
            have HA1 := Aside0.mk (s1.1 hx).1
            have HA2 := Aside0.mk (s2.2 hy).1
            have HT1 := Aside0.mk (s1.1 hx).2
            have HT2 := Aside0.mk (s2.2 hy).2
            clear s1 s2 hx hy
            go_wp2_with (first | ((with_reducible refine gate_callee (f := 11) rfl ?_); refine goesL_ (some 27) rfl rfl Try.func11 (by kernel_rfl) rfl #[.slice A3 l.length c3, .int .i64 x, .int .i64 100] rfl (by (try simp only [List.map_toArray, List.map_cons, List.map_nil]); first | done | rfl) ?_; (refine (add_calls2 _ A3 c3 l x 100 HC3.out HL3.out HLL.out HA1.out).mono ?_); rintro e wn ⟨A5, c5, rfl, hl5, hC5, hb⟩; have HC5 := Aside0.mk hC5; have HL5 := Aside0.mk hl5; clear hC5 hl5; refine ⟨_, rfl, ?_⟩; have n0_ := Aside0.mk (below_step (by first | exact HB.out | exact below_alloc HB.out _) hb); have m0_ := Aside0.mk (Kd.C_below (by first | exact HC3.out | exact Kd.C_alloc HC3.out _) hb); have m1_ := Aside0.mk (Kd.C_below (by first | exact HC4.out | exact Kd.C_alloc HC4.out _) hb); clear HB hb; clear HC3; clear HC4; have HB := n0_; clear n0_; have HC3 := m0_; have HC4 := m1_; clear m0_; clear m1_; have hcy := cell_at (Kd.C_below HR.out HB.out) ad rfl q hq2; rw [← HYY.out] at hcy) | ((with_reducible refine gate_callee (f := 11) rfl ?_); refine goesL_ (some 43) rfl rfl Try.func11 (by kernel_rfl) rfl #[.slice A4 m.length c4, .int .i64 y, .int .i64 100] rfl (by (try simp only [List.map_toArray, List.map_cons, List.map_nil]); first | done | rfl) ?_; (refine (add_calls2 _ A4 c4 m y 100 HC4.out HL4.out HML.out HA2.out).mono ?_); rintro e wn ⟨A6, c6, rfl, hl6, hC6, hb⟩; have HC6 := Aside0.mk hC6; have HL6 := Aside0.mk hl6; clear hC6 hl6; refine ⟨_, rfl, ?_⟩; have n0_ := Aside0.mk (below_step (by first | exact HB.out | exact below_alloc HB.out _) hb); have m0_ := Aside0.mk (Kd.C_below (by first | exact HC3.out | exact Kd.C_alloc HC3.out _) hb); have m1_ := Aside0.mk (Kd.C_below (by first | exact HC4.out | exact Kd.C_alloc HC4.out _) hb); have m2_ := Aside0.mk (Kd.C_below (by first | exact HC5.out | exact Kd.C_alloc HC5.out _) hb); clear HB hb; clear HC3; clear HC4; clear HC5; have HB := n0_; clear n0_; have HC3 := m0_; have HC4 := m1_; have HC5 := m2_; clear m0_; clear m1_; clear m2_))
            go_roundg (l0.length - (i + 1))
            case measure => have := HI.out; omega
            case rel => exact ⟨i + 1, l, (insS m y), A3, A6, c3, c6, congrArg (Value.int .i64) (by omega), rfl, rfl, ⟨by omega⟩, HT1, HT2, HC3, HL3, HC6, HL6, HB⟩
        · by_cases hy : y ∈ l0.drop (l0.length - i)
          · skip
            have HA1 := Aside0.mk (s1.2 hx).1
            have HA2 := Aside0.mk (s2.1 hy).1
            have HT1 := Aside0.mk (s1.2 hx).2
            have HT2 := Aside0.mk (s2.1 hy).2
            clear s1 s2 hx hy
            go_wp2_with (first | ((with_reducible refine gate_callee (f := 11) rfl ?_); refine goesL_ (some 27) rfl rfl Try.func11 (by kernel_rfl) rfl #[.slice A3 l.length c3, .int .i64 x, .int .i64 100] rfl (by (try simp only [List.map_toArray, List.map_cons, List.map_nil]); first | done | rfl) ?_; (refine (add_calls2 _ A3 c3 l x 100 HC3.out HL3.out HLL.out HA1.out).mono ?_); rintro e wn ⟨A5, c5, rfl, hl5, hC5, hb⟩; have HC5 := Aside0.mk hC5; have HL5 := Aside0.mk hl5; clear hC5 hl5; refine ⟨_, rfl, ?_⟩; have n0_ := Aside0.mk (below_step (by first | exact HB.out | exact below_alloc HB.out _) hb); have m0_ := Aside0.mk (Kd.C_below (by first | exact HC3.out | exact Kd.C_alloc HC3.out _) hb); have m1_ := Aside0.mk (Kd.C_below (by first | exact HC4.out | exact Kd.C_alloc HC4.out _) hb); clear HB hb; clear HC3; clear HC4; have HB := n0_; clear n0_; have HC3 := m0_; have HC4 := m1_; clear m0_; clear m1_; have hcy := cell_at (Kd.C_below HR.out HB.out) ad rfl q hq2; rw [← HYY.out] at hcy) | ((with_reducible refine gate_callee (f := 11) rfl ?_); refine goesL_ (some 43) rfl rfl Try.func11 (by kernel_rfl) rfl #[.slice A4 m.length c4, .int .i64 y, .int .i64 100] rfl (by (try simp only [List.map_toArray, List.map_cons, List.map_nil]); first | done | rfl) ?_; (refine (add_calls2 _ A4 c4 m y 100 HC4.out HL4.out HML.out HA2.out).mono ?_); rintro e wn ⟨A6, c6, rfl, hl6, hC6, hb⟩; have HC6 := Aside0.mk hC6; have HL6 := Aside0.mk hl6; clear hC6 hl6; refine ⟨_, rfl, ?_⟩; have n0_ := Aside0.mk (below_step (by first | exact HB.out | exact below_alloc HB.out _) hb); have m0_ := Aside0.mk (Kd.C_below (by first | exact HC3.out | exact Kd.C_alloc HC3.out _) hb); have m1_ := Aside0.mk (Kd.C_below (by first | exact HC4.out | exact Kd.C_alloc HC4.out _) hb); have m2_ := Aside0.mk (Kd.C_below (by first | exact HC5.out | exact Kd.C_alloc HC5.out _) hb); clear HB hb; clear HC3; clear HC4; clear HC5; have HB := n0_; clear n0_; have HC3 := m0_; have HC4 := m1_; have HC5 := m2_; clear m0_; clear m1_; clear m2_))
            go_roundg (l0.length - (i + 1))
            case measure => have := HI.out; omega
            case rel => exact ⟨i + 1, (insS l x), m, A5, A4, c5, c4, congrArg (Value.int .i64) (by omega), rfl, rfl, ⟨by omega⟩, HT1, HT2, HC5, HL5, HC4, HL4, HB⟩
          · skip
            have HA1 := Aside0.mk (s1.2 hx).1
            have HA2 := Aside0.mk (s2.2 hy).1
            have HT1 := Aside0.mk (s1.2 hx).2
            have HT2 := Aside0.mk (s2.2 hy).2
            clear s1 s2 hx hy
            go_wp2_with (first | ((with_reducible refine gate_callee (f := 11) rfl ?_); refine goesL_ (some 27) rfl rfl Try.func11 (by kernel_rfl) rfl #[.slice A3 l.length c3, .int .i64 x, .int .i64 100] rfl (by (try simp only [List.map_toArray, List.map_cons, List.map_nil]); first | done | rfl) ?_; (refine (add_calls2 _ A3 c3 l x 100 HC3.out HL3.out HLL.out HA1.out).mono ?_); rintro e wn ⟨A5, c5, rfl, hl5, hC5, hb⟩; have HC5 := Aside0.mk hC5; have HL5 := Aside0.mk hl5; clear hC5 hl5; refine ⟨_, rfl, ?_⟩; have n0_ := Aside0.mk (below_step (by first | exact HB.out | exact below_alloc HB.out _) hb); have m0_ := Aside0.mk (Kd.C_below (by first | exact HC3.out | exact Kd.C_alloc HC3.out _) hb); have m1_ := Aside0.mk (Kd.C_below (by first | exact HC4.out | exact Kd.C_alloc HC4.out _) hb); clear HB hb; clear HC3; clear HC4; have HB := n0_; clear n0_; have HC3 := m0_; have HC4 := m1_; clear m0_; clear m1_; have hcy := cell_at (Kd.C_below HR.out HB.out) ad rfl q hq2; rw [← HYY.out] at hcy) | ((with_reducible refine gate_callee (f := 11) rfl ?_); refine goesL_ (some 43) rfl rfl Try.func11 (by kernel_rfl) rfl #[.slice A4 m.length c4, .int .i64 y, .int .i64 100] rfl (by (try simp only [List.map_toArray, List.map_cons, List.map_nil]); first | done | rfl) ?_; (refine (add_calls2 _ A4 c4 m y 100 HC4.out HL4.out HML.out HA2.out).mono ?_); rintro e wn ⟨A6, c6, rfl, hl6, hC6, hb⟩; have HC6 := Aside0.mk hC6; have HL6 := Aside0.mk hl6; clear hC6 hl6; refine ⟨_, rfl, ?_⟩; have n0_ := Aside0.mk (below_step (by first | exact HB.out | exact below_alloc HB.out _) hb); have m0_ := Aside0.mk (Kd.C_below (by first | exact HC3.out | exact Kd.C_alloc HC3.out _) hb); have m1_ := Aside0.mk (Kd.C_below (by first | exact HC4.out | exact Kd.C_alloc HC4.out _) hb); have m2_ := Aside0.mk (Kd.C_below (by first | exact HC5.out | exact Kd.C_alloc HC5.out _) hb); clear HB hb; clear HC3; clear HC4; clear HC5; have HB := n0_; clear n0_; have HC3 := m0_; have HC4 := m1_; have HC5 := m2_; clear m0_; clear m1_; clear m2_))
            go_roundg (l0.length - (i + 1))
            case measure => have := HI.out; omega
            case rel => exact ⟨i + 1, (insS l x), (insS m y), A5, A6, c5, c6, congrArg (Value.int .i64) (by omega), rfl, rfl, ⟨by omega⟩, HT1, HT2, HC5, HL5, HC6, HL6, HB⟩
      · have hi' : i = l0.length := by have := HI.out; omega
        have b0 : decide ((i : Int) < (l0.length : Int)) = false := decide_eq_false (by omega)
        have elm : l = m := by
          obtain ⟨a1, a2, _⟩ := HS1.out
          obtain ⟨b1, b2, b3⟩ := HS2.out
          refine rise_ext l m a1 b1 (fun z => ?_)
          rw [a2, b2, hi']; simp
        have hml : l.length ≤ 4611686018427387904 := by have := HS1.out.2.2; omega
        subst elm
        obtain ⟨ks, hks⟩ := Ev.rounds (same_ev l l hml)
        rw [decide_eq_true rfl] at hks
        have HKS := Aside0.mk hks
        clear hks HS1 HS2
        go_wp2_with (first | ((with_reducible refine gate_callee (f := 10) rfl ?_); refine goesL_ (some 50) rfl rfl Try.func10 (by kernel_rfl) rfl #[] rfl (by (try simp only [List.map_toArray, List.map_cons, List.map_nil]); first | done | rfl) ?_; (refine (awake_calls _).mono ?_); rintro e wn ⟨rfl, hb⟩; refine ⟨_, rfl, ?_⟩; have n0_ := Aside0.mk (below_step (by first | exact HB.out | exact below_alloc HB.out _) hb); have m0_ := Aside0.mk (Kd.C_below (by first | exact HC3.out | exact Kd.C_alloc HC3.out _) hb); have m1_ := Aside0.mk (Kd.C_below (by first | exact HC4.out | exact Kd.C_alloc HC4.out _) hb); clear HB hb; clear HC3; clear HC4; have HB := n0_; clear n0_; have HC3 := m0_; have HC4 := m1_; clear m0_; clear m1_) | (go_at_call 13; refine calls_of_args (args' := #[.slice A3 l.length c3, .slice A4 l.length c4]) (by first | rfl) ?_; (refine (switchyardlaw16_Same.calls ks A3 c3 l A4 c4 l true _ HC3.out HL3.out HC4.out HL4.out HKS.out).mono ?_); rintro e wn ⟨rfl, hd⟩; have n0_ := Aside0.mk (below_step (by first | exact HB.out | exact below_alloc HB.out _) hd.below); clear HB hd; have HB := n0_; clear n0_))
        go_ret
        exact ⟨rfl, HB.out⟩
  · have d0 : decide (100 < (l0.length : Int)) = true := decide_eq_true (by omega)
    go_enter Try.func6, Try.ntmps6
    go_wp2_with (first | ((with_reducible refine gate_callee (f := 10) rfl ?_); refine goesL_ (some 10) rfl rfl Try.func10 (by kernel_rfl) rfl #[] rfl (by (try simp only [List.map_toArray, List.map_cons, List.map_nil]); first | done | rfl) ?_; (refine (awake_calls _).mono ?_); rintro e wn ⟨rfl, hb⟩; refine ⟨_, rfl, ?_⟩; have n0_ := Aside0.mk (below_step (by first | exact HB.out | exact below_alloc HB.out _) hb); clear HB hb; have HB := n0_; clear n0_) | ((with_reducible refine gate_callee (f := 10) rfl ?_); refine goesL_ (some 15) rfl rfl Try.func10 (by kernel_rfl) rfl #[] rfl (by (try simp only [List.map_toArray, List.map_cons, List.map_nil]); first | done | rfl) ?_; (refine (awake_calls _).mono ?_); rintro e wn ⟨rfl, hb⟩; refine ⟨_, rfl, ?_⟩; have n0_ := Aside0.mk (below_step (by first | exact HB.out | exact below_alloc HB.out _) hb); clear HB hb; have HB := n0_; clear n0_))
    go_ret
    exact ⟨rfl, HB.out⟩
end Go.Proofs.Ytmbojmmboolagaa.XS
