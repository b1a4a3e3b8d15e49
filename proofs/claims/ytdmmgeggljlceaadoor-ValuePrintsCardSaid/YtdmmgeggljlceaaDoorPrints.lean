/- ValuePrints: the law's own call answers true. No conditions. -/
import Derived.Test.YtdmmgeggljlceaaDoorOpens24
import Derived.Test.YtdmmgeggljlceaaDoorPureC
import Derived.Test.YtdmmgeggljlceaaDoorPureD
import Derived.Test.YtdmmgeggljlceaaDoorPrintsT
import Derived.Deep.LoopGhost
namespace Go.Proofs.YtdmmgeggljlceaaDoor.XV
open Go.RowKit Go.Proofs.YtdmmgeggljlceaaDoorW.PrintWords Go.Proofs.YtdmmgeggljlceaaDoorW.PrintLast Go.Proofs.YtdmmgeggljlceaaDoorW.PrintMore
set_option linter.unusedVariables false
set_option linter.unusedSimpArgs false
theorem fine_of {v : S24} (h : G24 v) (hr : rightB v.f0 v.f1 v.f2 v.f3 = true) : Fine v := by
  cases h with
  | mk h0 h1 h2 h3a h3b h3 => exact ⟨hr, bounds_i64 h1, fun y hy => bounds_i64 (h3 y hy)⟩
theorem short_of {v : S24} (h : G24 v) : v.f3.length ≤ 4611686018427387904 := by
  cases h with
  | mk h0 h1 h2 h3a h3b h3 =>
    have e : Tryd.prog.bytesOf 2 = 8 := by kernel_rfl
    rw [e] at h3a; omega
theorem list_of {v : S24} (hr : rightB v.f0 v.f1 v.f2 v.f3 = true) : v.f3.length ≤ 16 := by
  unfold rightB at hr
  by_cases h1 : v.f0 = 0
  · simp [h1] at hr; simp [hr]
  · by_cases h2 : v.f0 = 1
    · simp [h2] at hr; simp [hr]
    · by_cases h3 : v.f0 = 2
      · simp [h3] at hr; simp [hr]
      · by_cases h4 : v.f0 = 3
        · simp [h4] at hr; simp [hr]
        · by_cases h5 : v.f0 = 4
          · simp [h5] at hr; simp [hr]
          · by_cases h6 : v.f0 = 5
            · simp [h6] at hr; omega
            · simp [h1, h2, h3, h4, h5, h6] at hr
def RightAll (l : List S24) : Prop := ∀ v ∈ l, rightB v.f0 v.f1 v.f2 v.f3 = true
def switchyardlaw06_ValuePrints.T8 : Bool × List (List Nat × List Nat) := (true, [([], []), ([0], [0]), ([], []), ([2, 1], [2]), ([1, 3], [1, 3])])
def switchyardlaw06_ValuePrints.B8 : List Nat := [0, 1, 0, 7, 15]
theorem switchyardlaw06_ValuePrints.tab8 : rtab .any (opsOf Tryd.f6 8) = switchyardlaw06_ValuePrints.T8 := by kernel_rfl
theorem switchyardlaw06_ValuePrints.bits8 : waitsOk switchyardlaw06_ValuePrints.T8.2 switchyardlaw06_ValuePrints.B8 = true := by kernel_rfl
set_option maxHeartbeats 1600000 in
theorem prints_walk1 (A0 : Option Addr) (c0 : Nat) (l0 : (List S24)) (W : World) (hC0 : Kd.C k24 W A0 l0.length l0) (hc0 : l0.length ≤ c0) (hG0 : ∀ y ∈ l0, G24 y) (h0 : l0.length ≤ 50) (k : Nat) (haw : switchyardlaw06_awake.f k = some true) (hT : Tabs W) :
    Calls Tryd.prog 6 #[.slice A0 l0.length c0] W fun e w' => e = .returned (.bool true) ∧ Below W.heap.size W w' := by
  have HR0 := Aside0.mk hC0
  have HA := Aside0.mk haw
  have HT := Aside0.mk hT
  have HB := Aside0.mk (Below.refl W.heap.size W)
  clear hC0 haw hT
  have d0 : decide (50 < (l0.length : Int)) = false := decide_eq_false (by omega)
  go_enter Tryd.func6, Tryd.ntmps6
  go_wp2_with (first | ((with_reducible refine gate_callee (f := 10) rfl ?_); refine goesL_ (some 9) rfl rfl Tryd.func10 (by kernel_rfl) rfl #[] rfl (by (try simp only [List.map_toArray, List.map_cons, List.map_nil]); first | done | rfl) ?_; (with_reducible refine (switchyardlaw06_awake.calls k true _ HA.out (Tabs.below HT.out HB.out)).mono ?_); rintro e wn ⟨rfl, hb⟩; refine ⟨_, rfl, ?_⟩; have n0_ := Aside0.mk (below_step HB.out hb); clear hb HB; have HB := n0_; clear n0_))
  go_loopg [13] l0.length (fun kq v13 w' => ∃ j : Nat, v13 = .int .i64 (j : Int) ∧ Aside0 (j + kq = l0.length) ∧ Aside0 (RightAll (l0.take j)) ∧ Aside0 (Below W.heap.size W w'))
  case atStart => exact ⟨0, rfl, ⟨by omega⟩, ⟨fun v hv => by simp at hv⟩, HB⟩
  case round =>
    clear HB
    obtain ⟨j, rfl, HJ, HQ, HB⟩ := hrel
    by_cases hj : j < l0.length
    · have b0 : decide ((j : Int) < (l0.length : Int)) = true := decide_eq_true (by omega)
      obtain ⟨x, hx⟩ : ∃ x, x = l0[j] := ⟨_, rfl⟩
      have HM := Aside0.mk (List.getElem_mem hj)
      rw [← hx] at HM
      have HX := Aside0.mk hx
      clear hx
      have p0 : (0 : Int) ≤ (j : Int) := by omega
      have q0 : (j : Int) < (l0.length : Int) := by omega
      obtain ⟨ad, A3, c3, ea, hx0, hx1, hx2, hx3, hl3, hi3⟩ := at_T24 (Kd.C_below HR0.out HB.out) (j : Int) p0 q0
      rw [rdT_at hj, ← HX.out] at hx0 hx1 hx2 hx3 hl3 hi3
      simp only [Int.toNat_natCast] at hx0 hx1 hx2 hx3
      subst ea
      have HI3 := Aside0.mk (Kd.C_alloc hi3 (.cells #[.int .i64 x.f0, .int .i64 x.f1, .string x.f2, .slice A3 x.f3.length c3] 24))
      have HL3 := Aside0.mk hl3
      clear hi3 hl3
      obtain ⟨kr, hkr⟩ := Ev.rounds (right_ev x.f0 x.f1 x.f2 x.f3 (by have h := hG0 x HM.out; cases h with | mk _ _ h _ _ _ => omega))
      have hgw : IntKind.i64.wrap ((j : Int) + 1) = ((j + 1 : Nat) : Int) := by rw [i64_w]; exact wr_succ hj (by omega)
      replace p0 := eq_true p0
      replace q0 := eq_true q0
      go_upto_region 6 with (fail)
      have BKV := Aside0.mk (blk_new wr (.cells #[.int .i64 x.f0, .int .i64 x.f1, .string x.f2, .slice A3 x.f3.length c3] 24))
      have hB2 := Aside0.mk (below_alloc HB.out (.cells #[.int .i64 x.f0, .int .i64 x.f1, .string x.f2, .slice A3 x.f3.length c3] 24))
      clear HB
      have HB := hB2
      clear hB2 hx0 hx1 hx2 hx3
      generalize wr.alloc (.cells #[.int .i64 x.f0, .int .i64 x.f1, .string x.f2, .slice A3 x.f3.length c3] 24) = wv at *
      generalize wr.heap.size = gv at *
      have hcz0 := (blk_cell BKV.out 0).trans rfl
      have hcz1 := (blk_cell BKV.out 1).trans rfl
      have hcz2 := (blk_cell BKV.out 2).trans rfl
      have hcz3 := (blk_cell BKV.out 3).trans rfl
      cases hrb : rightB x.f0 x.f1 x.f2 x.f3 with
      | true =>
        rw [hrb] at hkr
        have HKR := Aside0.mk hkr
        clear hkr
        go_wp2_with (first | (go_at_call 14; refine calls_of_args (args' := #[.agg #[.int .i64 x.f0, .int .i64 x.f1, .string x.f2, .slice A3 x.f3.length c3]]) (by first | rfl) ?_; (with_reducible refine (switchyardref06_Right.calls kr _ _ _ _ _ _ _ _ HI3.out HL3.out HKR.out).mono ?_); rintro e wn ⟨rfl, hb⟩; have n0_ := Aside0.mk (below_step HB.out hb); have n1_ := Aside0.mk (blk_below BKV.out hb); have n2_ := Aside0.mk (Kd.C_below HI3.out hb); clear hb HB BKV HI3; have HB := n0_; have BKV := n1_; have HI3 := n2_; clear n0_ n1_ n2_))
        have hF := fine_of (hG0 x HM.out) hrb
        obtain ⟨K1, e1⟩ := print_ev x.f0 x.f1 x.f2 x.f3 hrb hF.2.1.1 hF.2.1.2 hF.2.2
        obtain ⟨K2, e2⟩ := ref_print_ev x.f0 x.f1 x.f2 x.f3 hrb hF.2.1.1 hF.2.1.2 hF.2.2
        obtain ⟨kp, P, hp1, hp2⟩ : ∃ kp P, value_Print.f kp x.f0 x.f1 x.f2 x.f3 = some P ∧ switchyardref06_Print.f kp x.f0 x.f1 x.f2 x.f3 = some P := ⟨K1 + K2, _, e1 _ (by omega), e2 _ (by omega)⟩
        have HKP := Aside0.mk hp1
        have HKQ := Aside0.mk hp2
        clear hp1 hp2 e1 e2 hF hcz0 hcz1 hcz2 hcz3
        have n0_ := Aside0.mk (below_drew1 HB.out)
        have n1_ := Aside0.mk (blk_drew BKV.out)
        have n2_ := Aside0.mk (Kd.C_drew HI3.out)
        clear HB BKV HI3
        have HB := n0_
        have BKV := n1_
        have HI3 := n2_
        clear n0_ n1_ n2_
        refine start_ (n := 5) (S := fun w' => w'.cell? ⟨gv, 0, none⟩ = some (.int .i64 x.f0) ∧ w'.cell? ⟨gv, 1, none⟩ = some (.int .i64 x.f1) ∧ w'.cell? ⟨gv, 2, none⟩ = some (.string x.f2) ∧ w'.cell? ⟨gv, 3, none⟩ = some (.slice A3 x.f3.length c3)) (ds := []) #[false, false, false, false, false] (by kernel_rfl) rfl rfl ⟨(blk_cell BKV.out 0).trans rfl, (blk_cell BKV.out 1).trans rfl, (blk_cell BKV.out 2).trans rfl, (blk_cell BKV.out 3).trans rfl⟩ (fun hHeld => ?_)
        refine with_tabW switchyardlaw06_ValuePrints.tab8 switchyardlaw06_ValuePrints.bits8 (fun HT_ HW_ => ?_)
        generalize wn.drew = wd at HB BKV HI3 hHeld ⊢
        refine take_ (i := 0) (N := (some 26)) (v := ?_) (a' := ?_) #[true, false, false, false, false] rfl rfl (take_ofW HT_.out HW_.out (by kernel_rfl)) (fun _ _ _ h => h) (Or.inl ⟨by rfl, ?_⟩) hHeld ?_ ?_
        rotate_left
        · rintro w' ⟨s0, s1, s2, s3⟩
          go_simp
          with_reducible rfl
        rotate_left
        · simp only [Act.put, List.setIfInBounds_toArray, List.set_cons_zero, List.set_cons_succ, i64_w, i32_w]
          rfl
        refine take_ (i := 2) (N := (some 28)) (v := ?_) (a' := ?_) #[true, false, true, false, false] rfl rfl (take_ofW HT_.out HW_.out (by kernel_rfl)) (fun _ _ _ h => h) (Or.inl ⟨by rfl, ?_⟩) hHeld ?_ ?_
        rotate_left
        · rintro w' ⟨s0, s1, s2, s3⟩
          go_simp
          with_reducible rfl
        rotate_left
        · simp only [Act.put, List.setIfInBounds_toArray, List.set_cons_zero, List.set_cons_succ, i64_w, i32_w]
          rfl
        refine one_ (i := 1) (N := (some 27)) #[true, true, true, false, false] rfl rfl (one_of HT_.out (by kernel_rfl)) (by decide) (fun K hK => ?_)
        refine goes_ Tryd.func17 (by kernel_rfl) rfl #[.agg #[.int .i64 x.f0, .int .i64 x.f1, .string x.f2, .slice A3 x.f3.length c3]] (by rfl) rfl rfl (by (try simp only [List.map_toArray, List.map_cons, List.map_nil]); first | done | rfl) ?_
        refine (value_Print.calls kp _ _ _ _ _ _ P _ HI3.out HL3.out HKP.out (Tabs.below HT.out HB.out)).mono ?_
        rintro e w21 ⟨rfl, hb⟩
        refine ⟨_, rfl, ?_⟩
        have n0_ := Aside0.mk (below_step HB.out hb)
        have n1_ := Aside0.mk (blk_below BKV.out hb)
        have n2_ := Aside0.mk (Kd.C_below HI3.out hb)
        clear hb HB BKV HI3
        have HB := n0_
        have BKV := n1_
        have HI3 := n2_
        clear n0_ n1_ n2_
        refine hK.out _ _ ⟨(blk_cell BKV.out 0).trans rfl, (blk_cell BKV.out 1).trans rfl, (blk_cell BKV.out 2).trans rfl, (blk_cell BKV.out 3).trans rfl⟩ (fun hHeld => ?_)
        clear hK K
        refine norm_ (a' := ?_) ?_ ?_
        rotate_left
        · show Act.put _ (some 27) _ = _
          simp only [Act.put, List.setIfInBounds_toArray, List.set_cons_zero, List.set_cons_succ, i64_w, i32_w]
          rfl
        refine one_ (i := 3) (N := (some 29)) #[true, true, true, true, false] rfl rfl (one_of HT_.out (by kernel_rfl)) (by decide) (fun K hK => ?_)
        refine goes_ Tryd.func18 (by kernel_rfl) rfl #[.agg #[.int .i64 x.f0, .int .i64 x.f1, .string x.f2, .slice A3 x.f3.length c3]] (by rfl) rfl rfl (by (try simp only [List.map_toArray, List.map_cons, List.map_nil]); first | done | rfl) ?_
        refine (switchyardref06_Print.calls kp _ _ _ _ _ _ P _ HI3.out HL3.out HKQ.out).mono ?_
        rintro e w23 ⟨rfl, hb⟩
        refine ⟨_, rfl, ?_⟩
        have n0_ := Aside0.mk (below_step HB.out hb)
        have n1_ := Aside0.mk (blk_below BKV.out hb)
        have n2_ := Aside0.mk (Kd.C_below HI3.out hb)
        clear hb HB BKV HI3
        have HB := n0_
        have BKV := n1_
        have HI3 := n2_
        clear n0_ n1_ n2_
        refine hK.out _ _ ⟨(blk_cell BKV.out 0).trans rfl, (blk_cell BKV.out 1).trans rfl, (blk_cell BKV.out 2).trans rfl, (blk_cell BKV.out 3).trans rfl⟩ (fun hHeld => ?_)
        clear hK K
        refine norm_ (a' := ?_) ?_ ?_
        rotate_left
        · show Act.put _ (some 29) _ = _
          simp only [Act.put, List.setIfInBounds_toArray, List.set_cons_zero, List.set_cons_succ, i64_w, i32_w]
          rfl
        refine pure_ (i := 4) (N := (some 30)) (v := ?_) (a' := ?_) #[true, true, true, true, true] rfl rfl (any_of HT_.out (by kernel_rfl)) (fun _ _ _ h => h) (Or.inl ⟨by rfl, ?_⟩) ?_ ?_
        rotate_left
        · intro w'
          go_simp
          with_reducible rfl
        rotate_left
        · simp only [Act.put, List.setIfInBounds_toArray, List.set_cons_zero, List.set_cons_succ, i64_w, i32_w]
          rfl
        refine done_ (done_of HT_.out (by kernel_rfl)) ?_
        go_wp2
        go_roundg (l0.length - (j + 1))
        case measure => have := HJ.out; omega
        case rel =>
          refine ⟨j + 1, congrArg (Value.int .i64) (by omega), ⟨by omega⟩, ⟨fun v hv => ?_⟩, HB⟩
          rw [List.take_succ_eq_append_getElem hj] at hv
          rcases List.mem_append.1 hv with hv | hv
          · exact HQ.out v hv
          · rw [List.mem_singleton.1 hv, ← HX.out]; exact hrb
      | false =>
        rw [hrb] at hkr
        have HKR := Aside0.mk hkr
        clear hkr
        go_wp2_with (first | (go_at_call 14; refine calls_of_args (args' := #[.agg #[.int .i64 x.f0, .int .i64 x.f1, .string x.f2, .slice A3 x.f3.length c3]]) (by first | rfl) ?_; (with_reducible refine (switchyardref06_Right.calls kr _ _ _ _ _ _ _ _ HI3.out HL3.out HKR.out).mono ?_); rintro e wn ⟨rfl, hb⟩; have n0_ := Aside0.mk (below_step HB.out hb); have n1_ := Aside0.mk (blk_below BKV.out hb); have n2_ := Aside0.mk (Kd.C_below HI3.out hb); clear hb HB BKV HI3; have HB := n0_; have BKV := n1_; have HI3 := n2_; clear n0_ n1_ n2_) | ((with_reducible refine gate_callee (f := 10) rfl ?_); refine goesL_ (some 25) rfl rfl Tryd.func10 (by kernel_rfl) rfl #[] rfl (by (try simp only [List.map_toArray, List.map_cons, List.map_nil]); first | done | rfl) ?_; (with_reducible refine (switchyardlaw06_awake.calls k true _ HA.out (Tabs.below HT.out HB.out)).mono ?_); rintro e wn ⟨rfl, hb⟩; refine ⟨_, rfl, ?_⟩; have n0_ := Aside0.mk (below_step HB.out hb); clear hb HB; have HB := n0_; clear n0_))
        go_ret
        exact ⟨rfl, HB.out⟩
    · have hj' : j = l0.length := by have := HJ.out; omega
      have b0 : decide ((j : Int) < (l0.length : Int)) = false := decide_eq_false (by omega)
      have hall : RightAll l0 := by have h := HQ.out; rw [hj', List.take_length] at h; exact h
      clear HQ HJ
      have hF : ∀ v ∈ l0, Fine v := fun v hv => fine_of (hG0 v hv) (hall v hv)
      have hL : ∀ v ∈ l0, v.f3.length ≤ 16 := fun v hv => list_of (hall v hv)
      have hS : ∀ v ∈ l0, v.f3.length ≤ 4611686018427387904 := fun v hv => short_of (hG0 v hv)
      obtain ⟨K1, e1⟩ := twin_ev l0 (by omega) hL
      obtain ⟨K2, e2⟩ := ref_twin_ev l0 (by omega) hL
      obtain ⟨K3, e3⟩ := sameAll_ev l0 l0 (by omega) hS
      obtain ⟨K4, e4⟩ := key_ev l0 (by omega) hF
      obtain ⟨K5, e5⟩ := ref_key_ev l0 (by omega) hF
      obtain ⟨kk, P, hk1, hk2, hk3, hk4, hk5⟩ : ∃ kk P, value_Twin.f kk l0 = some l0 ∧ switchyardref06_Twin.f kk l0 = some l0 ∧ switchyardref06_SameAll.f kk l0 l0 = some true ∧ value_Key.f kk l0 = some P ∧ switchyardref06_Key.f kk l0 = some P := ⟨K1 + K2 + K3 + K4 + K5, _, e1 _ (by omega), e2 _ (by omega), (e3 _ (by omega)).trans (by simp), e4 _ (by omega), e5 _ (by omega)⟩
      have HK1 := Aside0.mk hk1
      have HK2 := Aside0.mk hk2
      have HK3 := Aside0.mk hk3
      have HK4 := Aside0.mk hk4
      have HK5 := Aside0.mk hk5
      clear hk1 hk2 hk3 hk4 hk5 e1 e2 e3 e4 e5 hF hL hS hall
      go_wp2_with (first | ((with_reducible refine gate_callee (f := 19) rfl ?_); refine goesL_ (some 33) rfl rfl Tryd.func19 (by kernel_rfl) rfl #[.slice A0 l0.length c0] rfl (by (try simp only [List.map_toArray, List.map_cons, List.map_nil]); first | done | rfl) ?_; (with_reducible refine (value_Twin.calls kk A0 c0 l0 l0 _ (Kd.C_below HR0.out HB.out) hc0 HK1.out).mono ?_); rintro e wn ⟨v5, rfl, hS, hb⟩; obtain ⟨A5, c5, rfl, hl5, hC5⟩ := Kd.S_reads hS; have HC5 := Aside0.mk hC5; have HL5 := Aside0.mk hl5; obtain ⟨g5, cs5, hA5, ht5⟩ := ts_of hS; obtain ⟨N1, hN1⟩ : ∃ N1, N1 = wn.heap.size := ⟨_, rfl⟩; obtain ⟨N0, hN0⟩ : ∃ N0, N0 = wr.heap.size := ⟨_, rfl⟩; rw [← hN1, ← hN0] at ht5; have HT5 := Aside0.mk ht5; have HA5 := Aside0.mk hA5; have HN1 := Aside0.mk (Nat.le_of_eq hN1); have HN0 := Aside0.mk (show W.heap.size ≤ N0 by rw [hN0]; exact HB.out.size); clear hS hC5 hl5 hA5 ht5 hN1 hN0; refine ⟨_, rfl, ?_⟩; have n0_ := Aside0.mk (below_step HB.out hb); clear hb HB; have HB := n0_; clear n0_) | ((with_reducible refine gate_callee (f := 16) rfl ?_); refine goesL_ (some 36) rfl rfl Tryd.func16 (by kernel_rfl) rfl #[.slice A5 l0.length c5, .slice A0 l0.length c0] rfl (by (try simp only [List.map_toArray, List.map_cons, List.map_nil]); first | done | rfl) ?_; (with_reducible refine (switchyardref06_SameAll.calls kk A5 c5 l0 A0 c0 l0 true _ HC5.out HL5.out (Kd.C_below HR0.out HB.out) hc0 HK3.out).mono ?_); rintro e wn ⟨rfl, hb⟩; refine ⟨_, rfl, ?_⟩; have n0_ := Aside0.mk (below_step HB.out hb); have n1_ := Aside0.mk (ts_below HT5.out hb); have n2_ := Aside0.mk (Nat.le_trans HN1.out hb.size); clear hb HB HT5 HN1; have HB := n0_; have HT5 := n1_; have HN1 := n2_; clear n0_ n1_ n2_) | (go_at_call 15; refine calls_of_args (args' := #[.slice A0 l0.length c0]) (by first | rfl) ?_; (with_reducible refine (value_Key.calls kk A0 c0 l0 P _ (Kd.C_below HR0.out HB.out) hc0 HK4.out (Tabs.below HT.out HB.out)).mono ?_); rintro e wn ⟨rfl, hb⟩; have n0_ := Aside0.mk (below_step HB.out hb); have n1_ := Aside0.mk (ts_below HT5.out hb); have n2_ := Aside0.mk (Nat.le_trans HN1.out hb.size); clear hb HB HT5 HN1; have HB := n0_; have HT5 := n1_; have HN1 := n2_; clear n0_ n1_ n2_) | (go_at_call 20; refine calls_of_args (args' := #[.slice A0 l0.length c0]) (by first | rfl) ?_; (with_reducible refine (switchyardref06_Key.calls kk A0 c0 l0 P _ (Kd.C_below HR0.out HB.out) hc0 HK5.out).mono ?_); rintro e wn ⟨rfl, hb⟩; have n0_ := Aside0.mk (below_step HB.out hb); have n1_ := Aside0.mk (ts_below HT5.out hb); have n2_ := Aside0.mk (Nat.le_trans HN1.out hb.size); clear hb HB HT5 HN1; have HB := n0_; have HT5 := n1_; have HN1 := n2_; clear n0_ n1_ n2_) | ((with_reducible refine gate_callee (f := 21) rfl ?_); refine goesL_ (some 46) rfl rfl Tryd.func21 (by kernel_rfl) rfl #[.slice A0 l0.length c0] rfl (by (try simp only [List.map_toArray, List.map_cons, List.map_nil]); first | done | rfl) ?_; (with_reducible refine (switchyardref06_Twin.calls kk A0 c0 l0 l0 _ (Kd.C_below HR0.out HB.out) hc0 HK2.out).mono ?_); rintro e wn ⟨v6, rfl, hS, hb⟩; obtain ⟨A6, c6, rfl, hl6, hC6⟩ := Kd.S_reads hS; have HL6 := Aside0.mk hl6; obtain ⟨N2, hw6⟩ : ∃ N2, Kd.R k24 24 wn N2 (fun k => N1 ≤ k) (.slice A6 l0.length c6) l0 := ⟨_, was_of hS HN1.out⟩; have HW6 := Aside0.mk hw6; clear hS hC6 hl6 hw6 HN1; refine ⟨_, rfl, ?_⟩; have n0_ := Aside0.mk (below_step HB.out hb); have n1_ := Aside0.mk (ts_below HT5.out hb); clear hb HB HT5; have HB := n0_; have HT5 := n1_; clear n0_ n1_))
      clear hj hj' b0
      go_loopg [49] l0.length (fun kq v49 w' => ∃ i : Nat, v49 = .int .i64 (i : Int) ∧ Aside0 (i + kq = l0.length) ∧ Aside0 (TS N0 N1 g5 cs5 l0.length w') ∧ Aside0 (Kd.R k24 24 w' N2 (fun k => N1 ≤ k) (.slice A6 l0.length c6) l0) ∧ Aside0 (Below W.heap.size W w'))
      case atStart => exact ⟨0, rfl, ⟨by omega⟩, HT5, HW6, HB⟩
      case round =>
        clear HT5 HW6 HB
        obtain ⟨i, rfl, HI, HT5, HW6, HB⟩ := hrel
        by_cases hi : i < l0.length
        · have b1 : decide ((i : Int) < (l0.length : Int)) = true := decide_eq_true (by omega)
          have hgi : IntKind.i64.wrap ((i : Int) + 1) = ((i + 1 : Nat) : Int) := by rw [i64_w]; exact wr_succ hi (by omega)
          have eA := HA5.out (by omega)
          subst eA
          have ts := HT5.out (by omega)
          obtain ⟨v, hv, A7, n7, c7, rfl, hn7, _⟩ := ts.2 i hi
          have HV := Aside0.mk hv
          have hcz0 := (blk_cell ts.1 (i * 4 + 3)).trans hv
          clear ts hv
          have p0 : ((0 : Int) ≤ (i : Int)) = True := eq_true (by omega)
          have q0 : ((i : Int) < (l0.length : Int)) = True := eq_true (by omega)
          go_wp2
          clear hcz0
          go_loopg [58] n7 (fun kq v58 w' => ∃ j : Nat, v58 = .int .i64 (j : Int) ∧ Aside0 (j + kq = n7) ∧ Aside0 (TS N0 N1 g5 cs5 l0.length w') ∧ Aside0 (Kd.R k24 24 w' N2 (fun k => N1 ≤ k) (.slice A6 l0.length c6) l0) ∧ Aside0 (Below W.heap.size W w'))
          case atStart => exact ⟨0, rfl, ⟨by omega⟩, HT5, HW6, HB⟩
          case round =>
            clear HT5 HW6 HB
            obtain ⟨j, rfl, HJ, HT5, HW6, HB⟩ := hrel
            by_cases hj : j < n7
            · have b2 : decide ((j : Int) < (n7 : Int)) = true := decide_eq_true (by omega)
              have hgj : IntKind.i64.wrap ((j : Int) + 1) = ((j + 1 : Nat) : Int) := by rw [i64_w]; exact wr_succ hj (by omega)
              have ts := HT5.out (by omega)
              obtain ⟨v, hv, A8, n8, c8, rfl, hn8, hin⟩ := ts.2 i hi
              have ev := HV.out.symm.trans hv
              injection ev with ev
              injection ev with ev1 ev2 ev3
              subst ev1
              subst ev2
              subst ev3
              rcases hin with hin | ⟨b, z, eb, hb0, hb1, hz, hall⟩
              · omega
              subst eb
              obtain ⟨u, hu⟩ := hall j hj
              have hcz0 := (blk_cell ts.1 (i * 4 + 3)).trans hv
              have hcz1 := (blk_cell hz j).trans hu
              have hfz1 := blk_frozen hz j
              have HZ := Aside0.mk hz
              clear ts hz hall hu hv
              have p1 : ((0 : Int) ≤ (j : Int)) = True := eq_true (by omega)
              have q1 : ((j : Int) < (n7 : Int)) = True := eq_true (by omega)
              go_wp2
              go_roundg (n7 - (j + 1))
              case measure => have := HJ.out; omega
              case rel => exact ⟨j + 1, congrArg (Value.int .i64) (by omega), ⟨by omega⟩, ⟨fun h => tshape_store (HT5.out h) HZ.out⟩, ⟨Kd.R_far HW6.out (fun k hk => by show k ≠ b; omega) _⟩, ⟨below_set HB.out (by have := HN0.out; show W.heap.size ≤ b; omega)⟩⟩
            · have hj' : j = n7 := by have := HJ.out; omega
              have b2 : decide ((j : Int) < (n7 : Int)) = false := decide_eq_false (by omega)
              go_wp2
              go_roundg (l0.length - (i + 1))
              case measure => have := HI.out; omega
              case rel => exact ⟨i + 1, congrArg (Value.int .i64) (by omega), ⟨by omega⟩, HT5, HW6, HB⟩
        · have hi' : i = l0.length := by have := HI.out; omega
          have b1 : decide ((i : Int) < (l0.length : Int)) = false := decide_eq_false (by omega)
          go_wp2_with (first | ((with_reducible refine gate_callee (f := 10) rfl ?_); refine goesL_ (some 73) rfl rfl Tryd.func10 (by kernel_rfl) rfl #[] rfl (by (try simp only [List.map_toArray, List.map_cons, List.map_nil]); first | done | rfl) ?_; (with_reducible refine (switchyardlaw06_awake.calls k true _ HA.out (Tabs.below HT.out HB.out)).mono ?_); rintro e wn ⟨rfl, hb⟩; refine ⟨_, rfl, ?_⟩; have n0_ := Aside0.mk (below_step HB.out hb); have n1_ := Aside0.mk (Kd.R_below HW6.out hb); clear hb HB HW6; have HB := n0_; have HW6 := n1_; clear n0_ n1_) | (go_at_call 16; refine calls_of_args (args' := #[.slice A0 l0.length c0, .slice A6 l0.length c6]) (by first | rfl) ?_; (with_reducible refine (switchyardref06_SameAll.calls kk A0 c0 l0 A6 c6 l0 true _ (Kd.C_below HR0.out HB.out) hc0 (Kd.R_reads' HW6.out).2.2 HL6.out HK3.out).mono ?_); rintro e wn ⟨rfl, hb⟩; have n0_ := Aside0.mk (below_step HB.out hb); clear hb HB; have HB := n0_; clear n0_))
          go_ret
          exact ⟨rfl, HB.out⟩
set_option maxHeartbeats 1600000 in
theorem prints_walk2 (A0 : Option Addr) (c0 : Nat) (l0 : (List S24)) (W : World) (hC0 : Kd.C k24 W A0 l0.length l0) (h0 : ¬ l0.length ≤ 50) (hx62 : l0.length ≤ 9223372036854775807) (k : Nat) (haw : switchyardlaw06_awake.f k = some true) (hT : Tabs W) :
    Calls Tryd.prog 6 #[.slice A0 l0.length c0] W fun e w' => e = .returned (.bool true) ∧ Below W.heap.size W w' := by
  have HR0 := Aside0.mk hC0
  have HA := Aside0.mk haw
  have HT := Aside0.mk hT
  have HB := Aside0.mk (Below.refl W.heap.size W)
  clear hC0 haw hT
  have d0 : decide (50 < (l0.length : Int)) = true := decide_eq_true (by omega)
  go_enter Tryd.func6, Tryd.ntmps6
  go_wp2_with (first | ((with_reducible refine gate_callee (f := 10) rfl ?_); refine goesL_ (some 9) rfl rfl Tryd.func10 (by kernel_rfl) rfl #[] rfl (by (try simp only [List.map_toArray, List.map_cons, List.map_nil]); first | done | rfl) ?_; (with_reducible refine (switchyardlaw06_awake.calls k true _ HA.out (Tabs.below HT.out HB.out)).mono ?_); rintro e wn ⟨rfl, hb⟩; refine ⟨_, rfl, ?_⟩; have n0_ := Aside0.mk (below_step HB.out hb); clear hb HB; have HB := n0_; clear n0_))
  go_loopg [13] 0 (fun kq v13 w' => v13 = .int .i64 0 ∧ Aside0 (Below W.heap.size W w'))
  case atStart => exact ⟨rfl, HB⟩
  case round =>
    clear HB
    obtain ⟨rfl, HB⟩ := hrel
    have b0 : decide ((0 : Int) < (l0.length : Int)) = true := decide_eq_true (by omega)
    have b1 : 0 < l0.length := by omega
    obtain ⟨ad, A3, c3, ea, hx0, hx1, hx2, hx3, hl3, hi3⟩ := at_T24 (Kd.C_below HR0.out HB.out) 0 (by omega) (by omega)
    generalize rd_T24 l0 0 = x at hx0 hx1 hx2 hx3 hl3 hi3
    have ez : ad.add 0 = ad := by unfold Addr.add; simp
    simp only [Int.toNat_zero, Nat.zero_mul, ez] at hx0 hx1 hx2 hx3
    subst ea
    clear hi3 hl3
    have p0 : ((0 : Int) < (l0.length : Int)) = True := eq_true (by omega)
    go_upto_region 6 with (fail)
    have hB2 := Aside0.mk (below_alloc HB.out (.cells #[.int .i64 x.f0, .int .i64 x.f1, .string x.f2, .slice A3 x.f3.length c3] 24))
    clear HB hx0 hx1 hx2 hx3
    have HB := hB2
    clear hB2
    go_wp2_with (first | ((with_reducible refine gate_callee (f := 10) rfl ?_); refine goesL_ (some 25) rfl rfl Tryd.func10 (by kernel_rfl) rfl #[] rfl (by (try simp only [List.map_toArray, List.map_cons, List.map_nil]); first | done | rfl) ?_; (with_reducible refine (switchyardlaw06_awake.calls k true _ HA.out (Tabs.below HT.out HB.out)).mono ?_); rintro e wn ⟨rfl, hb⟩; refine ⟨_, rfl, ?_⟩; have n0_ := Aside0.mk (below_step HB.out hb); clear hb HB; have HB := n0_; clear n0_))
    go_ret
    exact ⟨rfl, HB.out⟩
theorem prints_walk (A0 : Option Addr) (c0 : Nat) (l0 : (List S24)) (W : World) (hC0 : Kd.C k24 W A0 l0.length l0) (hc0 : l0.length ≤ c0) (hG0 : (l0.length * Tryd.prog.bytesOf 24 ≤ 140737488351232 ∧ l0.length ≤ maxLen ∧ ∀ y ∈ l0, G24 y)) (hT : Tabs W) :
    Calls Tryd.prog 6 #[.slice A0 l0.length c0] W fun e w' => e = .returned (.bool true) ∧ Below W.heap.size W w' := by
  obtain ⟨Ka, ha⟩ := awake_ev
  by_cases h : l0.length ≤ 50
  · exact prints_walk1 A0 c0 l0 W hC0 hc0 hG0.2.2 h Ka (ha _ (Nat.le_refl _)) hT
  · exact prints_walk2 A0 c0 l0 W hC0 h hC0.2.1 Ka (ha _ (Nat.le_refl _)) hT
end Go.Proofs.YtdmmgeggljlceaaDoor.XV
