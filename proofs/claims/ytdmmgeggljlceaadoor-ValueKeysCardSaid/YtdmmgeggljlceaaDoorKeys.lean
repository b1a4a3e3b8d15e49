/- ValueKeys: the law's own call answers true. No conditions. -/
import Derived.Test.YtdmmgeggljlceaaDoorOpens24
import Derived.Test.YtdmmgeggljlceaaDoorPureC
import Derived.Deep.LoopGhost
namespace Go.Proofs.YtdmmgeggljlceaaDoor.XV
open Go.RowKit Go.Proofs.YtdmmgeggljlceaaDoorW.PrintWords Go.Proofs.YtdmmgeggljlceaaDoorW.PrintLast Go.Proofs.YtdmmgeggljlceaaDoorW.PrintMore
set_option linter.unusedVariables false
set_option linter.unusedSimpArgs false
def RightAll (l : List S24) : Prop := ∀ v ∈ l, rightB v.f0 v.f1 v.f2 v.f3 = true
theorem fine_of {v : S24} (h : G24 v) (hr : rightB v.f0 v.f1 v.f2 v.f3 = true) : Fine v := by
  cases h with
  | mk h0 h1 h2 h3a h3b h3 =>
    exact ⟨hr, bounds_i64 h1, fun y hy => bounds_i64 (h3 y hy)⟩
theorem short_of {v : S24} (h : G24 v) : v.f3.length ≤ 4611686018427387904 := by
  cases h with
  | mk h0 h1 h2 h3a h3b h3 =>
    have e : Tryd.prog.bytesOf 2 = 8 := by kernel_rfl
    rw [e] at h3a; omega
set_option maxHeartbeats 1600000 in
theorem keys_walk1 (A0 : Option Addr) (c0 : Nat) (l0 : (List S24)) (A1 : Option Addr) (c1 : Nat) (l1 : (List S24)) (W : World) (hC0 : Kd.C k24 W A0 l0.length l0) (hc0 : l0.length ≤ c0) (hG0 : ∀ y ∈ l0, G24 y) (hC1 : Kd.C k24 W A1 l1.length l1) (hc1 : l1.length ≤ c1) (hG1 : ∀ y ∈ l1, G24 y) (h0 : l0.length ≤ 30) (h1 : l1.length ≤ 30) (k : Nat) (haw : switchyardlaw06_awake.f k = some true) (hT : Tabs W) :
    Calls Tryd.prog 4 #[.slice A0 l0.length c0, .slice A1 l1.length c1] W fun e w' => e = .returned (.bool true) ∧ Below W.heap.size W w' := by
  have HR0 := Aside0.mk hC0
  have HR1 := Aside0.mk hC1
  have HA := Aside0.mk haw
  have HT := Aside0.mk hT
  have HB := Aside0.mk (Below.refl W.heap.size W)
  clear hC0 hC1 haw hT
  have d0 : decide (30 < (l0.length : Int)) = false := decide_eq_false (by omega)
  have d1 : decide (30 < (l1.length : Int)) = false := decide_eq_false (by omega)
  go_enter Tryd.func4, Tryd.ntmps4
  go_wp2_with (first | ((with_reducible refine gate_callee (f := 10) rfl ?_); refine goesL_ (some 9) rfl rfl Tryd.func10 (by kernel_rfl) rfl #[] rfl (by (try simp only [List.map_toArray, List.map_cons, List.map_nil]); first | done | rfl) ?_; (with_reducible refine (switchyardlaw06_awake.calls k true _ HA.out (Tabs.below HT.out HB.out)).mono ?_); rintro e w1 ⟨rfl, hb⟩; refine ⟨_, rfl, ?_⟩; have n0_ := Aside0.mk (below_step HB.out hb); clear HB hb; have HB := n0_; clear n0_))
  have BK := Aside0.mk (blk_new w1 (.cells #[.slice A0 l0.length c0, .slice A1 l1.length c1] 29))
  have hB2 := Aside0.mk (below_alloc HB.out (.cells #[.slice A0 l0.length c0, .slice A1 l1.length c1] 29))
  clear HB
  have HB := hB2
  clear hB2 d0 d1
  generalize w1.alloc (.cells #[.slice A0 l0.length c0, .slice A1 l1.length c1] 29) = w2 at *
  generalize w1.heap.size = gb at *
  go_loopg [24] 2 (fun kq v24 w' => ∃ i : Nat, v24 = .int .i64 (i : Int) ∧ Aside0 (i + kq = 2) ∧ Aside0 (w'.heap[gb]? = some (.cells #[.slice A0 l0.length c0, .slice A1 l1.length c1] 29 (0, 0))) ∧ Aside0 ((1 ≤ i → RightAll l0) ∧ (2 ≤ i → RightAll l1)) ∧ Aside0 (Below W.heap.size W w'))
  case atStart => exact ⟨0, rfl, ⟨rfl⟩, BK, ⟨⟨fun h => absurd h (by omega), fun h => absurd h (by omega)⟩⟩, HB⟩
  case round =>
    clear BK HB
    obtain ⟨i, rfl, HI, BK, HQ, HB⟩ := hrel
    have hi2 : i ≤ 2 := by have := HI.out; omega
    rcases Nat.lt_or_ge i 1 with hi | hi
    · have hi0 : i = 0 := by omega
      subst hi0
      clear hi hi2
      have hcz0 := (blk_cell BK.out 0).trans rfl
      have hfz0 := blk_frozen BK.out 0
      go_wp2
      clear hcz0 hfz0
      go_loopg [30] l0.length (fun kq v30 w' => ∃ j : Nat, v30 = .int .i64 (j : Int) ∧ Aside0 (j + kq = l0.length) ∧ Aside0 (w'.heap[gb]? = some (.cells #[.slice A0 l0.length c0, .slice A1 l1.length c1] 29 (0, 0))) ∧ Aside0 (RightAll (l0.take j)) ∧ Aside0 (Below W.heap.size W w'))
      case atStart => exact ⟨0, rfl, ⟨by omega⟩, BK, ⟨fun v hv => by simp at hv⟩, HB⟩
      case round =>
        clear BK HB
        obtain ⟨j, rfl, HJ, BK, HT_, HB⟩ := hrel
        by_cases hj : j < l0.length
        · have b0 : decide ((j : Int) < (l0.length : Int)) = true := decide_eq_true (by omega)
          obtain ⟨x, hx⟩ : ∃ x, x = l0[j] := ⟨_, rfl⟩
          have HM := Aside0.mk (List.getElem_mem hj)
          rw [← hx] at HM
          have HX := Aside0.mk hx
          clear hx
          have p0 : (0 : Int) ≤ (j : Int) := by omega
          have q0 : (j : Int) < (l0.length : Int) := by omega
          obtain ⟨ad, A3, c3, ea, hx0, hx1, hx2, hx3, hl3, hi3⟩ := at_T24 (Kd.C_below HR0.out HB.out) (j : Int) p0 q0
          rw [rdT_at hj, ← HX.out] at hx0 hx1 hx2 hx3 hl3 hi3
          simp only [Int.toNat_natCast] at hx0 hx1 hx2 hx3
          subst ea
          have HI3 := Aside0.mk hi3
          have HL3 := Aside0.mk hl3
          clear hi3 hl3
          obtain ⟨kr, hkr⟩ := Ev.rounds (right_ev x.f0 x.f1 x.f2 x.f3 (by have h := hG0 x HM.out; cases h with | mk _ _ h _ _ _ => omega))
          have hgw : IntKind.i64.wrap ((j : Int) + 1) = ((j + 1 : Nat) : Int) := by rw [i64_w]; exact wr_succ hj (by omega)
          replace p0 := eq_true p0
          replace q0 := eq_true q0
          cases hrb : rightB x.f0 x.f1 x.f2 x.f3 with
          | true =>
            rw [hrb] at hkr
            have HKR := Aside0.mk hkr
            clear hkr
            go_wp2_with (first | ((with_reducible refine gate_callee (f := 14) rfl ?_); refine goesL_ (some 35) rfl rfl Tryd.func14 (by kernel_rfl) rfl #[.agg #[.int .i64 x.f0, .int .i64 x.f1, .string x.f2, .slice A3 x.f3.length c3]] rfl (by (try simp only [List.map_toArray, List.map_cons, List.map_nil]); first | done | rfl) ?_; (with_reducible refine (switchyardref06_Right.calls kr _ _ _ _ _ _ _ _ (Kd.C_alloc HI3.out _) HL3.out HKR.out).mono ?_); rintro e w5 ⟨rfl, hb⟩; refine ⟨_, rfl, ?_⟩; have n0_ := Aside0.mk (below_step (below_alloc HB.out _) hb); have n1_ := Aside0.mk (blk_below (blk_alloc BK.out _) hb); clear HB BK hb; have HB := n0_; have BK := n1_; clear n0_ n1_))
            go_roundg (l0.length - (j + 1))
            case measure => have := HJ.out; omega
            case rel =>
              refine ⟨j + 1, congrArg (Value.int .i64) (by omega), ⟨by omega⟩, BK, ⟨fun v hv => ?_⟩, HB⟩
              rw [List.take_succ_eq_append_getElem hj] at hv
              rcases List.mem_append.1 hv with hv | hv
              · exact HT_.out v hv
              · rw [List.mem_singleton.1 hv, ← HX.out]; exact hrb
          | false =>
            rw [hrb] at hkr
            have HKR := Aside0.mk hkr
            clear hkr
            go_wp2_with (first | ((with_reducible refine gate_callee (f := 14) rfl ?_); refine goesL_ (some 35) rfl rfl Tryd.func14 (by kernel_rfl) rfl #[.agg #[.int .i64 x.f0, .int .i64 x.f1, .string x.f2, .slice A3 x.f3.length c3]] rfl (by (try simp only [List.map_toArray, List.map_cons, List.map_nil]); first | done | rfl) ?_; (with_reducible refine (switchyardref06_Right.calls kr _ _ _ _ _ _ _ _ (Kd.C_alloc HI3.out _) HL3.out HKR.out).mono ?_); rintro e w5 ⟨rfl, hb⟩; refine ⟨_, rfl, ?_⟩; have n0_ := Aside0.mk (below_step (below_alloc HB.out _) hb); have n1_ := Aside0.mk (blk_below (blk_alloc BK.out _) hb); clear HB BK hb; have HB := n0_; have BK := n1_; clear n0_ n1_) | ((with_reducible refine gate_callee (f := 10) rfl ?_); refine goesL_ (some 37) rfl rfl Tryd.func10 (by kernel_rfl) rfl #[] rfl (by (try simp only [List.map_toArray, List.map_cons, List.map_nil]); first | done | rfl) ?_; (with_reducible refine (switchyardlaw06_awake.calls k true _ HA.out (Tabs.below HT.out HB.out)).mono ?_); rintro e w1 ⟨rfl, hb⟩; refine ⟨_, rfl, ?_⟩; have n0_ := Aside0.mk (below_step HB.out hb); clear HB hb; have HB := n0_; clear n0_))
            go_ret
            exact ⟨rfl, HB.out⟩
        · have hj' : j = l0.length := by have := HJ.out; omega
          have b0 : decide ((j : Int) < (l0.length : Int)) = false := decide_eq_false (by omega)
          have hall : RightAll l0 := by have h := HT_.out; rw [hj', List.take_length] at h; exact h
          clear HT_
          go_wp2
          go_roundg 1
          case measure => have := HI.out; omega
          case rel => exact ⟨1, rfl, ⟨rfl⟩, BK, ⟨⟨fun _ => hall, fun h => absurd h (by omega)⟩⟩, HB⟩
    rcases Nat.lt_or_ge i 2 with hi' | hi'
    · have hi0 : i = 1 := by omega
      subst hi0
      clear hi hi2 hi'
      have hcz0 := (blk_cell BK.out 1).trans rfl
      have hfz0 := blk_frozen BK.out 1
      go_wp2
      clear hcz0 hfz0
      go_loopg [30] l1.length (fun kq v30 w' => ∃ j : Nat, v30 = .int .i64 (j : Int) ∧ Aside0 (j + kq = l1.length) ∧ Aside0 (w'.heap[gb]? = some (.cells #[.slice A0 l0.length c0, .slice A1 l1.length c1] 29 (0, 0))) ∧ Aside0 (RightAll (l1.take j)) ∧ Aside0 (Below W.heap.size W w'))
      case atStart => exact ⟨0, rfl, ⟨by omega⟩, BK, ⟨fun v hv => by simp at hv⟩, HB⟩
      case round =>
        clear BK HB
        obtain ⟨j, rfl, HJ, BK, HT_, HB⟩ := hrel
        by_cases hj : j < l1.length
        · have b0 : decide ((j : Int) < (l1.length : Int)) = true := decide_eq_true (by omega)
          obtain ⟨x, hx⟩ : ∃ x, x = l1[j] := ⟨_, rfl⟩
          have HM := Aside0.mk (List.getElem_mem hj)
          rw [← hx] at HM
          have HX := Aside0.mk hx
          clear hx
          have p0 : (0 : Int) ≤ (j : Int) := by omega
          have q0 : (j : Int) < (l1.length : Int) := by omega
          obtain ⟨ad, A3, c3, ea, hx0, hx1, hx2, hx3, hl3, hi3⟩ := at_T24 (Kd.C_below HR1.out HB.out) (j : Int) p0 q0
          rw [rdT_at hj, ← HX.out] at hx0 hx1 hx2 hx3 hl3 hi3
          simp only [Int.toNat_natCast] at hx0 hx1 hx2 hx3
          subst ea
          have HI3 := Aside0.mk hi3
          have HL3 := Aside0.mk hl3
          clear hi3 hl3
          obtain ⟨kr, hkr⟩ := Ev.rounds (right_ev x.f0 x.f1 x.f2 x.f3 (by have h := hG1 x HM.out; cases h with | mk _ _ h _ _ _ => omega))
          have hgw : IntKind.i64.wrap ((j : Int) + 1) = ((j + 1 : Nat) : Int) := by rw [i64_w]; exact wr_succ hj (by omega)
          replace p0 := eq_true p0
          replace q0 := eq_true q0
          cases hrb : rightB x.f0 x.f1 x.f2 x.f3 with
          | true =>
            rw [hrb] at hkr
            have HKR := Aside0.mk hkr
            clear hkr
            go_wp2_with (first | ((with_reducible refine gate_callee (f := 14) rfl ?_); refine goesL_ (some 35) rfl rfl Tryd.func14 (by kernel_rfl) rfl #[.agg #[.int .i64 x.f0, .int .i64 x.f1, .string x.f2, .slice A3 x.f3.length c3]] rfl (by (try simp only [List.map_toArray, List.map_cons, List.map_nil]); first | done | rfl) ?_; (with_reducible refine (switchyardref06_Right.calls kr _ _ _ _ _ _ _ _ (Kd.C_alloc HI3.out _) HL3.out HKR.out).mono ?_); rintro e w5 ⟨rfl, hb⟩; refine ⟨_, rfl, ?_⟩; have n0_ := Aside0.mk (below_step (below_alloc HB.out _) hb); have n1_ := Aside0.mk (blk_below (blk_alloc BK.out _) hb); clear HB BK hb; have HB := n0_; have BK := n1_; clear n0_ n1_))
            go_roundg (l1.length - (j + 1))
            case measure => have := HJ.out; omega
            case rel =>
              refine ⟨j + 1, congrArg (Value.int .i64) (by omega), ⟨by omega⟩, BK, ⟨fun v hv => ?_⟩, HB⟩
              rw [List.take_succ_eq_append_getElem hj] at hv
              rcases List.mem_append.1 hv with hv | hv
              · exact HT_.out v hv
              · rw [List.mem_singleton.1 hv, ← HX.out]; exact hrb
          | false =>
            rw [hrb] at hkr
            have HKR := Aside0.mk hkr
            clear hkr
            go_wp2_with (first | ((with_reducible refine gate_callee (f := 14) rfl ?_); refine goesL_ (some 35) rfl rfl Tryd.func14 (by kernel_rfl) rfl #[.agg #[.int .i64 x.f0, .int .i64 x.f1, .string x.f2, .slice A3 x.f3.length c3]] rfl (by (try simp only [List.map_toArray, List.map_cons, List.map_nil]); first | done | rfl) ?_; (with_reducible refine (switchyardref06_Right.calls kr _ _ _ _ _ _ _ _ (Kd.C_alloc HI3.out _) HL3.out HKR.out).mono ?_); rintro e w5 ⟨rfl, hb⟩; refine ⟨_, rfl, ?_⟩; have n0_ := Aside0.mk (below_step (below_alloc HB.out _) hb); have n1_ := Aside0.mk (blk_below (blk_alloc BK.out _) hb); clear HB BK hb; have HB := n0_; have BK := n1_; clear n0_ n1_) | ((with_reducible refine gate_callee (f := 10) rfl ?_); refine goesL_ (some 37) rfl rfl Tryd.func10 (by kernel_rfl) rfl #[] rfl (by (try simp only [List.map_toArray, List.map_cons, List.map_nil]); first | done | rfl) ?_; (with_reducible refine (switchyardlaw06_awake.calls k true _ HA.out (Tabs.below HT.out HB.out)).mono ?_); rintro e w1 ⟨rfl, hb⟩; refine ⟨_, rfl, ?_⟩; have n0_ := Aside0.mk (below_step HB.out hb); clear HB hb; have HB := n0_; clear n0_))
            go_ret
            exact ⟨rfl, HB.out⟩
        · have hj' : j = l1.length := by have := HJ.out; omega
          have b0 : decide ((j : Int) < (l1.length : Int)) = false := decide_eq_false (by omega)
          have hall : RightAll l1 := by have h := HT_.out; rw [hj', List.take_length] at h; exact h
          clear HT_
          go_wp2
          go_roundg 0
          case measure => have := HI.out; omega
          case rel => exact ⟨2, rfl, ⟨rfl⟩, BK, ⟨⟨fun _ => HQ.out.1 (by omega), fun _ => hall⟩⟩, HB⟩
    · have hi0 : i = 2 := by omega
      subst hi0
      clear hi hi2 hi'
      have hq0 : RightAll l0 := HQ.out.1 (by omega)
      have hq1 : RightAll l1 := HQ.out.2 (by omega)
      clear HQ HI
      by_cases e0 : l0 = []
      · have z0 : ((l0.length : Int) == 0) = true := by rw [e0]; rfl
        have z1 : decide ((l0.length : Int) = 0) = true := by rw [e0]; rfl
        clear e0 hq0 hq1
        go_wp2_with (first | ((with_reducible refine gate_callee (f := 10) rfl ?_); refine goesL_ (some 40) rfl rfl Tryd.func10 (by kernel_rfl) rfl #[] rfl (by (try simp only [List.map_toArray, List.map_cons, List.map_nil]); first | done | rfl) ?_; (with_reducible refine (switchyardlaw06_awake.calls k true _ HA.out (Tabs.below HT.out HB.out)).mono ?_); rintro e w1 ⟨rfl, hb⟩; refine ⟨_, rfl, ?_⟩; have n0_ := Aside0.mk (below_step HB.out hb); clear HB hb; have HB := n0_; clear n0_))
        go_ret
        exact ⟨rfl, HB.out⟩
      have z0 : ((l0.length : Int) == 0) = false := by rw [beq_eq_false_iff_ne]; intro h; exact e0 (List.length_eq_zero_iff.1 (by omega))
      have z1 : decide ((l0.length : Int) = 0) = false := decide_eq_false (fun h => e0 (List.length_eq_zero_iff.1 (by omega)))
      by_cases e1 : l1 = []
      · have z2 : ((l1.length : Int) == 0) = true := by rw [e1]; rfl
        have z3 : decide ((l1.length : Int) = 0) = true := by rw [e1]; rfl
        clear e0 e1 hq0 hq1
        go_wp2_with (first | ((with_reducible refine gate_callee (f := 10) rfl ?_); refine goesL_ (some 40) rfl rfl Tryd.func10 (by kernel_rfl) rfl #[] rfl (by (try simp only [List.map_toArray, List.map_cons, List.map_nil]); first | done | rfl) ?_; (with_reducible refine (switchyardlaw06_awake.calls k true _ HA.out (Tabs.below HT.out HB.out)).mono ?_); rintro e w1 ⟨rfl, hb⟩; refine ⟨_, rfl, ?_⟩; have n0_ := Aside0.mk (below_step HB.out hb); clear HB hb; have HB := n0_; clear n0_))
        go_ret
        exact ⟨rfl, HB.out⟩
      have z2 : ((l1.length : Int) == 0) = false := by rw [beq_eq_false_iff_ne]; intro h; exact e1 (List.length_eq_zero_iff.1 (by omega))
      have z3 : decide ((l1.length : Int) = 0) = false := decide_eq_false (fun h => e1 (List.length_eq_zero_iff.1 (by omega)))
      have f0 : ∀ v ∈ l0, Fine v := fun v hv => fine_of (hG0 v hv) (hq0 v hv)
      have f1 : ∀ v ∈ l1, Fine v := fun v hv => fine_of (hG1 v hv) (hq1 v hv)
      obtain ⟨k0, hk0⟩ := Ev.rounds (key_ev l0 (by omega) f0)
      obtain ⟨k1, hk1⟩ := Ev.rounds (key_ev l1 (by omega) f1)
      obtain ⟨k2, hk2⟩ := Ev.rounds (sameAll_ev l0 l1 (by omega) (fun v hv => short_of (hG0 v hv)))
      have hinj : l0 ≠ l1 → keyL l0 ≠ keyL l1 := fun hne he => hne (key_inj l0 l1 e0 e1 f0 f1 he)
      clear e0 e1 f0 f1 hq0 hq1
      have HK0 := Aside0.mk hk0
      have HK1 := Aside0.mk hk1
      clear hk0 hk1
      by_cases he : l0 = l1
      · have HK2 := Aside0.mk (show switchyardref06_SameAll.f k2 l0 l1 = some true by rw [hk2, decide_eq_true he])
        have HK1' := Aside0.mk (show value_Key.f k1 l1 = some ⟨(keyL l0).toArray⟩ by rw [HK1.out, he])
        clear hk2 hinj he HK1
        generalize (⟨(keyL l0).toArray⟩ : ByteArray) = K at *
        go_wp2_with (first | ((with_reducible refine gate_callee (f := 10) rfl ?_); refine goesL_ (some 40) rfl rfl Tryd.func10 (by kernel_rfl) rfl #[] rfl (by (try simp only [List.map_toArray, List.map_cons, List.map_nil]); first | done | rfl) ?_; (with_reducible refine (switchyardlaw06_awake.calls k true _ HA.out (Tabs.below HT.out HB.out)).mono ?_); rintro e w1 ⟨rfl, hb⟩; refine ⟨_, rfl, ?_⟩; have n0_ := Aside0.mk (below_step HB.out hb); clear HB hb; have HB := n0_; clear n0_) | (go_at_call 15; refine calls_of_args (args' := #[.slice A0 l0.length c0]) (by first | rfl) ?_; (with_reducible refine (value_Key.calls k0 A0 c0 l0 K _ (Kd.C_below HR0.out HB.out) hc0 HK0.out (Tabs.below HT.out HB.out)).mono ?_); rintro e w7 ⟨rfl, hb⟩; have n0_ := Aside0.mk (below_step HB.out hb); clear HB hb; have HB := n0_; clear n0_) | (go_at_call 15; refine calls_of_args (args' := #[.slice A1 l1.length c1]) (by first | rfl) ?_; (with_reducible refine (value_Key.calls k1 A1 c1 l1 K _ (Kd.C_below HR1.out HB.out) hc1 HK1'.out (Tabs.below HT.out HB.out)).mono ?_); rintro e w7 ⟨rfl, hb⟩; have n0_ := Aside0.mk (below_step HB.out hb); clear HB hb; have HB := n0_; clear n0_) | (go_at_call 16; refine calls_of_args (args' := #[.slice A0 l0.length c0, .slice A1 l1.length c1]) (by first | rfl) ?_; (with_reducible refine (switchyardref06_SameAll.calls k2 A0 c0 l0 A1 c1 l1 true _ (Kd.C_below HR0.out HB.out) hc0 (Kd.C_below HR1.out HB.out) hc1 HK2.out).mono ?_); rintro e w8 ⟨rfl, hb⟩; have n0_ := Aside0.mk (below_step HB.out hb); clear HB hb; have HB := n0_; clear n0_))
        go_ret
        exact ⟨rfl, HB.out⟩
      · have HK2 := Aside0.mk (show switchyardref06_SameAll.f k2 l0 l1 = some false by rw [hk2, decide_eq_false he])
        have hne : ¬ (⟨(keyL l0).toArray⟩ : ByteArray) = ⟨(keyL l1).toArray⟩ := fun h => hinj he (by simpa using congrArg (fun b : ByteArray => b.data.toList) h)
        clear hk2 hinj he
        have hne2 : ((⟨(keyL l0).toArray⟩ : ByteArray).toList == (⟨(keyL l1).toArray⟩ : ByteArray).toList) = false := by rw [beq_eq_false_iff_ne]; exact fun h => hne ((str_eq_iff _ _).1 h)
        clear hne
        generalize (⟨(keyL l0).toArray⟩ : ByteArray) = K at *
        generalize (⟨(keyL l1).toArray⟩ : ByteArray) = L at *
        go_wp2_with (first | ((with_reducible refine gate_callee (f := 10) rfl ?_); refine goesL_ (some 40) rfl rfl Tryd.func10 (by kernel_rfl) rfl #[] rfl (by (try simp only [List.map_toArray, List.map_cons, List.map_nil]); first | done | rfl) ?_; (with_reducible refine (switchyardlaw06_awake.calls k true _ HA.out (Tabs.below HT.out HB.out)).mono ?_); rintro e w1 ⟨rfl, hb⟩; refine ⟨_, rfl, ?_⟩; have n0_ := Aside0.mk (below_step HB.out hb); clear HB hb; have HB := n0_; clear n0_) | (go_at_call 15; refine calls_of_args (args' := #[.slice A0 l0.length c0]) (by first | rfl) ?_; (with_reducible refine (value_Key.calls k0 A0 c0 l0 K _ (Kd.C_below HR0.out HB.out) hc0 HK0.out (Tabs.below HT.out HB.out)).mono ?_); rintro e w7 ⟨rfl, hb⟩; have n0_ := Aside0.mk (below_step HB.out hb); clear HB hb; have HB := n0_; clear n0_) | (go_at_call 15; refine calls_of_args (args' := #[.slice A1 l1.length c1]) (by first | rfl) ?_; (with_reducible refine (value_Key.calls k1 A1 c1 l1 L _ (Kd.C_below HR1.out HB.out) hc1 HK1.out (Tabs.below HT.out HB.out)).mono ?_); rintro e w7 ⟨rfl, hb⟩; have n0_ := Aside0.mk (below_step HB.out hb); clear HB hb; have HB := n0_; clear n0_) | (go_at_call 16; refine calls_of_args (args' := #[.slice A0 l0.length c0, .slice A1 l1.length c1]) (by first | rfl) ?_; (with_reducible refine (switchyardref06_SameAll.calls k2 A0 c0 l0 A1 c1 l1 false _ (Kd.C_below HR0.out HB.out) hc0 (Kd.C_below HR1.out HB.out) hc1 HK2.out).mono ?_); rintro e w8 ⟨rfl, hb⟩; have n0_ := Aside0.mk (below_step HB.out hb); clear HB hb; have HB := n0_; clear n0_))
        go_ret
        exact ⟨rfl, HB.out⟩
set_option maxHeartbeats 1600000 in
theorem keys_walk2 (A0 : Option Addr) (c0 : Nat) (l0 : (List S24)) (A1 : Option Addr) (c1 : Nat) (l1 : (List S24)) (W : World) (h : ¬ (l0.length ≤ 30 ∧ l1.length ≤ 30)) (k : Nat) (haw : switchyardlaw06_awake.f k = some true) (hT : Tabs W) :
    Calls Tryd.prog 4 #[.slice A0 l0.length c0, .slice A1 l1.length c1] W fun e w' => e = .returned (.bool true) ∧ Below W.heap.size W w' := by
  have HA := Aside0.mk haw
  have HT := Aside0.mk hT
  have HB := Aside0.mk (Below.refl W.heap.size W)
  clear haw hT
  by_cases h0 : l0.length ≤ 30
  · have d0 : decide (30 < (l0.length : Int)) = false := decide_eq_false (by omega)
    have d1 : decide (30 < (l1.length : Int)) = true := decide_eq_true (by omega)
    clear h0 h
    go_enter Tryd.func4, Tryd.ntmps4
    go_wp2_with (first | ((with_reducible refine gate_callee (f := 10) rfl ?_); refine goesL_ (some 9) rfl rfl Tryd.func10 (by kernel_rfl) rfl #[] rfl (by (try simp only [List.map_toArray, List.map_cons, List.map_nil]); first | done | rfl) ?_; (with_reducible refine (switchyardlaw06_awake.calls k true _ HA.out (Tabs.below HT.out HB.out)).mono ?_); rintro e w1 ⟨rfl, hb⟩; refine ⟨_, rfl, ?_⟩; have n0_ := Aside0.mk (below_step HB.out hb); clear HB hb; have HB := n0_; clear n0_) | ((with_reducible refine gate_callee (f := 10) rfl ?_); refine goesL_ (some 19) rfl rfl Tryd.func10 (by kernel_rfl) rfl #[] rfl (by (try simp only [List.map_toArray, List.map_cons, List.map_nil]); first | done | rfl) ?_; (with_reducible refine (switchyardlaw06_awake.calls k true _ HA.out (Tabs.below HT.out HB.out)).mono ?_); rintro e w1 ⟨rfl, hb⟩; refine ⟨_, rfl, ?_⟩; have n0_ := Aside0.mk (below_step HB.out hb); clear HB hb; have HB := n0_; clear n0_))
    go_ret
    exact ⟨rfl, HB.out⟩
  · have d0 : decide (30 < (l0.length : Int)) = true := decide_eq_true (by omega)
    clear h0 h
    go_enter Tryd.func4, Tryd.ntmps4
    go_wp2_with (first | ((with_reducible refine gate_callee (f := 10) rfl ?_); refine goesL_ (some 9) rfl rfl Tryd.func10 (by kernel_rfl) rfl #[] rfl (by (try simp only [List.map_toArray, List.map_cons, List.map_nil]); first | done | rfl) ?_; (with_reducible refine (switchyardlaw06_awake.calls k true _ HA.out (Tabs.below HT.out HB.out)).mono ?_); rintro e w1 ⟨rfl, hb⟩; refine ⟨_, rfl, ?_⟩; have n0_ := Aside0.mk (below_step HB.out hb); clear HB hb; have HB := n0_; clear n0_) | ((with_reducible refine gate_callee (f := 10) rfl ?_); refine goesL_ (some 19) rfl rfl Tryd.func10 (by kernel_rfl) rfl #[] rfl (by (try simp only [List.map_toArray, List.map_cons, List.map_nil]); first | done | rfl) ?_; (with_reducible refine (switchyardlaw06_awake.calls k true _ HA.out (Tabs.below HT.out HB.out)).mono ?_); rintro e w1 ⟨rfl, hb⟩; refine ⟨_, rfl, ?_⟩; have n0_ := Aside0.mk (below_step HB.out hb); clear HB hb; have HB := n0_; clear n0_))
    go_ret
    exact ⟨rfl, HB.out⟩
theorem keys_walk (A0 : Option Addr) (c0 : Nat) (l0 : (List S24)) (A1 : Option Addr) (c1 : Nat) (l1 : (List S24)) (W : World) (hC0 : Kd.C k24 W A0 l0.length l0) (hc0 : l0.length ≤ c0) (hG0 : (l0.length * Tryd.prog.bytesOf 24 ≤ 140737488351232 ∧ l0.length ≤ maxLen ∧ ∀ y ∈ l0, G24 y)) (hC1 : Kd.C k24 W A1 l1.length l1) (hc1 : l1.length ≤ c1) (hG1 : (l1.length * Tryd.prog.bytesOf 24 ≤ 140737488351232 ∧ l1.length ≤ maxLen ∧ ∀ y ∈ l1, G24 y)) (hT : Tabs W) :
    Calls Tryd.prog 4 #[.slice A0 l0.length c0, .slice A1 l1.length c1] W fun e w' => e = .returned (.bool true) ∧ Below W.heap.size W w' := by
  obtain ⟨Ka, ha⟩ := awake_ev
  by_cases h : l0.length ≤ 30 ∧ l1.length ≤ 30
  · exact keys_walk1 A0 c0 l0 A1 c1 l1 W hC0 hc0 hG0.2.2 hC1 hc1 hG1.2.2 h.1 h.2 Ka (ha _ (Nat.le_refl _)) hT
  · exact keys_walk2 A0 c0 l0 A1 c1 l1 W h Ka (ha _ (Nat.le_refl _)) hT
end Go.Proofs.YtdmmgeggljlceaaDoor.XV
