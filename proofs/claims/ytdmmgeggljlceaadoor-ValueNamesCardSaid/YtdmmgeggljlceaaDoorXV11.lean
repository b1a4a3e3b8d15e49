/- What functions of the program and of Go's library answer: each as a plain Lean function, with its walk (laid by wip/xprint.py, a program of this session, over the kit's print). Conditions: those that each statement names. -/
import Derived.Test.YtdmmgeggljlceaaDoorXV0
import Derived.Test.YtdmmgeggljlceaaDoorXV1
import Derived.Test.YtdmmgeggljlceaaDoorXV5
namespace Go.Proofs.YtdmmgeggljlceaaDoor.XV
open Go.RowKit Go.Proofs.YtdmmgeggljlceaaDoorW.PrintWords Go.Proofs.YtdmmgeggljlceaaDoorW.PrintLast Go.Proofs.YtdmmgeggljlceaaDoorW.PrintMore
attribute [local go_sem] max2_int min2_int max_two min_two max_three min_three max_four min_four   -- for this text's walks alone
set_option linter.unusedVariables false
set_option linter.unusedSimpArgs false

-- NOT PRINTED: function 4 (switchyardlaw06_ValueKeys)

/-! ### switchyardlaw06_ValueNames: function 5 -/
def switchyardlaw06_ValueNames.l0 : Nat → ByteArray → ByteArray → Int → Bool → Int → Int → Option (Bool)
  | 0, _, _, _, _, _, _ => none
  | k + 1, x0, x1, x7, x8, x30, x31 => if x31 < x30 then (if x8 = true then (if 0 ≤ x31 then (if x31 ≤ (wrap64 (x31 + 1)) then (if (wrap64 (x31 + 1)) ≤ (x1.size : Int) then ((value_Name.f (x1.extract (x31 : Int).toNat ((wrap64 (x31 + 1)) : Int).toNat)).bind fun t166 => (if t166 = true then (switchyardlaw06_ValueNames.l0 k x0 x1 x7 true x30 (wrap64 (x31 + 1))) else (if x31 < (x1.size : Int) then (if (bt x1 x31) = 95 then (switchyardlaw06_ValueNames.l0 k x0 x1 x7 true x30 (wrap64 (x31 + 1))) else (if (bt x1 x31) ≥ 48 then (switchyardlaw06_ValueNames.l0 k x0 x1 x7 (decide ((bt x1 x31) ≤ 57)) x30 (wrap64 (x31 + 1))) else (switchyardlaw06_ValueNames.l0 k x0 x1 x7 false x30 (wrap64 (x31 + 1))))) else (none)))) else (none)) else (none)) else (none)) else (switchyardlaw06_ValueNames.l0 k x0 x1 x7 false x30 (wrap64 (x31 + 1)))) else ((switchyardlaw06_awake.f k).bind fun t167 => (if t167 = true then (if 0 ≤ x7 then (if x7 ≤ (x0.size : Int) then ((value_Name.f (x0.extract 0 (x7 : Int).toNat)).bind fun t168 => (if t168 = true then (if 1 + x0.size ≤ 9223372036854775807 then ((value_Name.f ((⟨#[49]⟩ : ByteArray) ++ x0)).bind fun t169 => (if t169 = true then (some false) else ((value_Name.f ((⟨#[95]⟩ : ByteArray) ++ x0)).bind fun t170 => (if t170 = true then (some false) else (if (x1.size : Int) > 100 then (some true) else (if x0.size + x1.size ≤ 9223372036854775807 then ((value_Name.f (x0 ++ x1)).bind fun t171 => (some (t171 == x8))) else (none))))))) else (none)) else (some false))) else (none)) else (none)) else (some false)))
def switchyardlaw06_ValueNames.f (k : Nat) (a0 : ByteArray) (a1 : ByteArray) (a2 : Int) : Option (Bool) := (switchyardlaw06_awake.f k).bind fun t163 => (if t163 = true then ((value_Name.f a0).bind fun t164 => (if t164 = true then (if (((a0.size : Int))) = 0 then (none) else (if a0.size + a1.size ≤ 9223372036854775807 then (switchyardlaw06_ValueNames.l0 k a0 a1 (wrap64 (1 + (wrap64 (Int.tmod (IntKind.u64.wrap (a2)) (((a0.size : Int))))))) (decide (((a0 ++ a1).size : Int) ≤ 24)) (a1.size : Int) 0) else (none))) else ((switchyardlaw06_awake.f k).bind fun t165 => (some t165)))) else (some false))
theorem switchyardlaw06_ValueNames.mono_l : ∀ k, (∀ y0 y1 y2 y3 y4 y5, LeO (switchyardlaw06_ValueNames.l0 k y0 y1 y2 y3 y4 y5) (switchyardlaw06_ValueNames.l0 (k + 1) y0 y1 y2 y3 y4 y5))
  | 0 => fun _ _ _ _ _ _ r h => by simp [switchyardlaw06_ValueNames.l0] at h
  | k + 1 => by
    have ih0 := switchyardlaw06_ValueNames.mono_l k
    · intro y0 y1 y2 y3 y4 y5
      unfold switchyardlaw06_ValueNames.l0
      repeat' first
      | (with_reducible exact ih0 _ _ _ _ _ _)
      | (with_reducible exact switchyardlaw06_awake.mono _)
      | (with_reducible exact LeO.refl _)
      | (with_reducible exact LeO.none _)
      | (with_reducible refine LeO.ite ?_ ?_)
      | (with_reducible refine LeO.bind ?_ (fun _ => ?_))
      | exact ih0 _ _ _ _ _ _
      | exact switchyardlaw06_awake.mono _
      | exact LeO.none _
      | refine LeO.ite ?_ ?_
      | refine LeO.bind ?_ (fun _ => ?_)
theorem switchyardlaw06_ValueNames.mono : ∀ a0 a1 a2 k, LeO (switchyardlaw06_ValueNames.f k a0 a1 a2) (switchyardlaw06_ValueNames.f (k + 1) a0 a1 a2) := by
  intro a0 a1 a2 k
  have ih0 := switchyardlaw06_ValueNames.mono_l k
  unfold switchyardlaw06_ValueNames.f
  repeat' first
      | (with_reducible exact ih0 _ _ _ _ _ _)
      | (with_reducible exact switchyardlaw06_awake.mono _)
      | (with_reducible exact LeO.refl _)
      | (with_reducible exact LeO.none _)
      | (with_reducible refine LeO.ite ?_ ?_)
      | (with_reducible refine LeO.bind ?_ (fun _ => ?_))
      | exact ih0 _ _ _ _ _ _
      | exact switchyardlaw06_awake.mono _
      | exact LeO.none _
      | refine LeO.ite ?_ ?_
      | refine LeO.bind ?_ (fun _ => ?_)
set_option maxHeartbeats 2000000 in
set_option maxRecDepth 100000 in
theorem switchyardlaw06_ValueNames.calls (k : Nat) (a0 : ByteArray) (a1 : ByteArray) (a2 : Int) (r : Bool) (w : World) (h : switchyardlaw06_ValueNames.f k a0 a1 a2 = some r) (hT : Tabs w) :
    Calls Tryd.prog 5 #[.string a0, .string a1, .int .i64 a2] w fun e w' => e = .returned (.bool r) ∧ Below w.heap.size w w' := by
  have HT := Aside0.mk hT
  clear hT
  have HB := Aside0.mk (Below.refl w.heap.size w)
  have H : ((switchyardlaw06_awake.f k).bind fun t163 => (if t163 = true then ((value_Name.f a0).bind fun t164 => (if t164 = true then (if (((a0.size : Int))) = 0 then (none) else (if a0.size + a1.size ≤ 9223372036854775807 then (switchyardlaw06_ValueNames.l0 k a0 a1 (wrap64 (1 + (wrap64 (Int.tmod (IntKind.u64.wrap (a2)) (((a0.size : Int))))))) (decide (((a0 ++ a1).size : Int) ≤ 24)) (a1.size : Int) 0) else (none))) else ((switchyardlaw06_awake.f k).bind fun t165 => (some t165)))) else (some false))) = some r := h
  clear h
  replace H := Option.bind_eq_some_iff.mp H
  obtain ⟨t163, A40, H⟩ := H
  replace H : (if t163 = true then ((value_Name.f a0).bind fun t164 => (if t164 = true then (if (((a0.size : Int))) = 0 then (none) else (if a0.size + a1.size ≤ 9223372036854775807 then (switchyardlaw06_ValueNames.l0 k a0 a1 (wrap64 (1 + (wrap64 (Int.tmod (IntKind.u64.wrap (a2)) (((a0.size : Int))))))) (decide (((a0 ++ a1).size : Int) ≤ 24)) (a1.size : Int) 0) else (none))) else ((switchyardlaw06_awake.f k).bind fun t165 => (some t165)))) else (some false)) = some r := H
  have A4 := Aside0.mk A40
  clear A40
  by_cases c5 : t163 = true
  · subst c5
    have H1 : ((value_Name.f a0).bind fun t164 => (if t164 = true then (if (((a0.size : Int))) = 0 then (none) else (if a0.size + a1.size ≤ 9223372036854775807 then (switchyardlaw06_ValueNames.l0 k a0 a1 (wrap64 (1 + (wrap64 (Int.tmod (IntKind.u64.wrap (a2)) (((a0.size : Int))))))) (decide (((a0 ++ a1).size : Int) ≤ 24)) (a1.size : Int) 0) else (none))) else ((switchyardlaw06_awake.f k).bind fun t165 => (some t165)))) = some r := by rw [if_pos rfl] at H; exact H
    clear H
    have H := H1
    clear H1
    replace H := Option.bind_eq_some_iff.mp H
    obtain ⟨t164, A60, H⟩ := H
    replace H : (if t164 = true then (if (((a0.size : Int))) = 0 then (none) else (if a0.size + a1.size ≤ 9223372036854775807 then (switchyardlaw06_ValueNames.l0 k a0 a1 (wrap64 (1 + (wrap64 (Int.tmod (IntKind.u64.wrap (a2)) (((a0.size : Int))))))) (decide (((a0 ++ a1).size : Int) ≤ 24)) (a1.size : Int) 0) else (none))) else ((switchyardlaw06_awake.f k).bind fun t165 => (some t165))) = some r := H
    have A6 := Aside0.mk A60
    clear A60
    by_cases c7 : t164 = true
    · subst c7
      have H1 : (if (((a0.size : Int))) = 0 then (none) else (if a0.size + a1.size ≤ 9223372036854775807 then (switchyardlaw06_ValueNames.l0 k a0 a1 (wrap64 (1 + (wrap64 (Int.tmod (IntKind.u64.wrap (a2)) (((a0.size : Int))))))) (decide (((a0 ++ a1).size : Int) ≤ 24)) (a1.size : Int) 0) else (none))) = some r := by rw [if_pos rfl] at H; exact H
      clear H
      have H := H1
      clear H1
      by_cases c8 : (((a0.size : Int))) = 0
      · rw [if_pos c8] at H
        exact absurd H (by simp)
      · rw [if_neg c8] at H
        have c8b0 : ((((a0.size : Int))) == 0) = false := beq_eq_false_iff_ne.mpr c8
        have c8b1 : ((((a0.size : Int))) != 0) = true := bne_iff_ne.mpr c8
        have c8e : (a0 = ByteArray.empty) = False := eq_false (fun h => c8 (by rw [h]; rfl))
        by_cases c9 : a0.size + a1.size ≤ 9223372036854775807
        · rw [if_pos c9] at H
          have c9b0 := eq_true c9
          have c9b1 : decide (a0.size + a1.size ≤ 9223372036854775807) = true := decide_eq_true c9
          try have c9b2 : (9223372036854775807 < a0.size + a1.size) = False := eq_false (Nat.not_lt.2 c9)
          try (have c9s := c9; simp only [ByteArray.size_append, bsize_mk, List.size_toArray, List.length_cons, List.length_nil, Nat.reduceAdd, Nat.zero_add] at c9s)
          try have c9s2 := eq_false (Nat.not_lt.2 c9s)
          have H' := Aside0.mk H
          clear H
          go_enter Tryd.func5, Tryd.ntmps5
          go_wp2_with (first | ((with_reducible refine gate_callee (f := 10) rfl ?_); refine goesL_ (some 10) rfl rfl Tryd.func10 (by kernel_rfl) rfl #[] rfl (by (try simp only [List.map_toArray, List.map_cons, List.map_nil]); first | done | rfl | (simp only [List.length_drop, List.length_take]; rfl)) ?_; (with_reducible refine (switchyardlaw06_awake.calls k  true _ A4.out (Tabs.below HT.out (by repeat (first | (with_reducible first | exact HB.out | apply below_alloc | apply pw_below_drewN | apply below_drew1) | exact HB.out)))).mono ?_); rintro e w10 ⟨rfl, hb⟩; refine ⟨_, rfl, ?_⟩; have n0_ := Aside0.mk (below_step (by repeat (first | (with_reducible first | exact HB.out | apply below_alloc | apply pw_below_drewN | apply below_drew1) | exact HB.out)) hb); clear HB; have HB := n0_; clear n0_; (try clear hb); (try clear hb2); (try clear hk); (try clear hi)) | ((with_reducible refine gate_callee (f := 11) rfl ?_); refine goesL_ (some 13) rfl rfl Tryd.func11 (by kernel_rfl) rfl #[.string a0] rfl (by (try simp only [List.map_toArray, List.map_cons, List.map_nil]); first | done | rfl | (simp only [List.length_drop, List.length_take]; rfl)) ?_; (with_reducible refine (value_Name.calls a0 true _ A6.out).mono ?_); rintro e w11 ⟨rfl, hb⟩; refine ⟨_, rfl, ?_⟩; have n0_ := Aside0.mk (below_step (by repeat (first | (with_reducible first | exact HB.out | apply below_alloc | apply pw_below_drewN | apply below_drew1) | exact HB.out)) hb); clear HB; have HB := n0_; clear n0_; (try clear hb); (try clear hb2); (try clear hk); (try clear hi)))
          go_loopg [8, 31] k (fun kq v8 v31 w' => ∃ (x8_1 : Bool) (x31_1 : Int), v8 = .bool x8_1 ∧ v31 = .int .i64 x31_1 ∧ Aside0 (switchyardlaw06_ValueNames.l0 kq a0 a1 (wrap64 (1 + (wrap64 (Int.tmod (IntKind.u64.wrap (a2)) (((a0.size : Int))))))) x8_1 (a1.size : Int) x31_1 = some r) ∧ Aside0 (kq ≤ k) ∧ Aside0 (Below w.heap.size w w'))
          case atStart => exact ⟨(decide (((a0 ++ a1).size : Int) ≤ 24)), (0), (by first | rfl | (simp; done) | (simp [*]; done)), (by first | rfl | (simp; done) | (simp [*]; done)), H', ⟨Nat.le_refl _⟩, ⟨by repeat (first | (with_reducible first | exact HB.out | apply below_alloc | apply pw_below_drewN | apply below_drew1) | exact HB.out)⟩⟩
          case round =>
            clear H'
            try clear c1
            try clear p2
            try clear c5
            try clear p6
            try clear c7
            try clear c8
            try clear c8b0
            try clear c8b1
            try clear c9
            try clear c9b0
            try clear c9b1
            try clear c9b2
            try clear c10
            try clear c11
            obtain ⟨x8_1, x31_1, rfl, rfl, HA, HK1, HB⟩ := hrel
            cases gk with
            | zero => exact absurd HA.out (by simp [switchyardlaw06_ValueNames.l0])
            | succ k1 =>
              have H := HA.out
              clear HA
              simp only [switchyardlaw06_ValueNames.l0] at H
              by_cases c12 : x31_1 < (a1.size : Int)
              · rw [if_pos c12] at H
                have c12b0 : decide (x31_1 < (a1.size : Int)) = true := decide_eq_true c12
                clear c12
                by_cases c13 : x8_1 = true
                · subst c13
                  have H1 : (if 0 ≤ x31_1 then (if x31_1 ≤ (wrap64 (x31_1 + 1)) then (if (wrap64 (x31_1 + 1)) ≤ (a1.size : Int) then ((value_Name.f (a1.extract (x31_1 : Int).toNat ((wrap64 (x31_1 + 1)) : Int).toNat)).bind fun t166 => (if t166 = true then (switchyardlaw06_ValueNames.l0 k1 a0 a1 (wrap64 (1 + (wrap64 (Int.tmod (IntKind.u64.wrap (a2)) (((a0.size : Int))))))) true (a1.size : Int) (wrap64 (x31_1 + 1))) else (if x31_1 < (a1.size : Int) then (if (bt a1 x31_1) = 95 then (switchyardlaw06_ValueNames.l0 k1 a0 a1 (wrap64 (1 + (wrap64 (Int.tmod (IntKind.u64.wrap (a2)) (((a0.size : Int))))))) true (a1.size : Int) (wrap64 (x31_1 + 1))) else (if (bt a1 x31_1) ≥ 48 then (switchyardlaw06_ValueNames.l0 k1 a0 a1 (wrap64 (1 + (wrap64 (Int.tmod (IntKind.u64.wrap (a2)) (((a0.size : Int))))))) (decide ((bt a1 x31_1) ≤ 57)) (a1.size : Int) (wrap64 (x31_1 + 1))) else (switchyardlaw06_ValueNames.l0 k1 a0 a1 (wrap64 (1 + (wrap64 (Int.tmod (IntKind.u64.wrap (a2)) (((a0.size : Int))))))) false (a1.size : Int) (wrap64 (x31_1 + 1))))) else (none)))) else (none)) else (none)) else (none)) = some r := by rw [if_pos rfl] at H; exact H
                  clear H
                  have H := H1
                  clear H1
                  by_cases c14 : 0 ≤ x31_1
                  · rw [if_pos c14] at H
                    have c14b0 := eq_true c14
                    have c14b1 : decide (0 ≤ x31_1) = true := decide_eq_true c14
                    clear c14
                    by_cases c15 : x31_1 ≤ (wrap64 (x31_1 + 1))
                    · rw [if_pos c15] at H
                      have c15b0 := eq_true c15
                      have c15b1 : decide (x31_1 ≤ (wrap64 (x31_1 + 1))) = true := decide_eq_true c15
                      by_cases c16 : (wrap64 (x31_1 + 1)) ≤ (a1.size : Int)
                      · rw [if_pos c16] at H
                        have c16b0 := eq_true c16
                        have c16b1 : decide ((wrap64 (x31_1 + 1)) ≤ (a1.size : Int)) = true := decide_eq_true c16
                        replace H := Option.bind_eq_some_iff.mp H
                        obtain ⟨t166, A170, H⟩ := H
                        replace H : (if t166 = true then (switchyardlaw06_ValueNames.l0 k1 a0 a1 (wrap64 (1 + (wrap64 (Int.tmod (IntKind.u64.wrap (a2)) (((a0.size : Int))))))) true (a1.size : Int) (wrap64 (x31_1 + 1))) else (if x31_1 < (a1.size : Int) then (if (bt a1 x31_1) = 95 then (switchyardlaw06_ValueNames.l0 k1 a0 a1 (wrap64 (1 + (wrap64 (Int.tmod (IntKind.u64.wrap (a2)) (((a0.size : Int))))))) true (a1.size : Int) (wrap64 (x31_1 + 1))) else (if (bt a1 x31_1) ≥ 48 then (switchyardlaw06_ValueNames.l0 k1 a0 a1 (wrap64 (1 + (wrap64 (Int.tmod (IntKind.u64.wrap (a2)) (((a0.size : Int))))))) (decide ((bt a1 x31_1) ≤ 57)) (a1.size : Int) (wrap64 (x31_1 + 1))) else (switchyardlaw06_ValueNames.l0 k1 a0 a1 (wrap64 (1 + (wrap64 (Int.tmod (IntKind.u64.wrap (a2)) (((a0.size : Int))))))) false (a1.size : Int) (wrap64 (x31_1 + 1))))) else (none))) = some r := H
                        have A17 := Aside0.mk A170
                        clear A170
                        by_cases c18 : t166 = true
                        · subst c18
                          have H1 : (switchyardlaw06_ValueNames.l0 k1 a0 a1 (wrap64 (1 + (wrap64 (Int.tmod (IntKind.u64.wrap (a2)) (((a0.size : Int))))))) true (a1.size : Int) (wrap64 (x31_1 + 1))) = some r := by rw [if_pos rfl] at H; exact H
                          clear H
                          have H := H1
                          clear H1
                          have H' := Aside0.mk H
                          clear H
                          go_wp2_with (first | (go_at_call 11; refine calls_of_args (args' := #[.string (a1.extract (x31_1 : Int).toNat ((wrap64 (x31_1 + 1)) : Int).toNat)]) (by first | rfl) ?_; (with_reducible refine (value_Name.calls (a1.extract (x31_1 : Int).toNat ((wrap64 (x31_1 + 1)) : Int).toNat) true _ A17.out).mono ?_); rintro e w19 ⟨rfl, hb⟩; have n0_ := Aside0.mk (below_step (by repeat (first | (with_reducible first | exact HB.out | apply below_alloc | apply pw_below_drewN | apply below_drew1) | exact HB.out)) hb); clear HB; have HB := n0_; clear n0_; (try clear hb); (try clear hb2); (try clear hk); (try clear hi)))
                          go_roundg k1
                          case measure => have := HK1.out; omega
                          case rel => exact ⟨(true), (wrap64 (x31_1 + 1)), (by first | rfl | (simp; done) | (simp [*]; done)), (by first | rfl | (simp; done) | (simp [*]; done)), H', ⟨by have := HK1.out; omega⟩, ⟨by repeat (first | (with_reducible first | exact HB.out | apply below_alloc | apply pw_below_drewN | apply below_drew1) | exact HB.out)⟩⟩
                        · replace c18 := Bool.eq_false_iff.mpr c18
                          subst c18
                          have H1 : (if x31_1 < (a1.size : Int) then (if (bt a1 x31_1) = 95 then (switchyardlaw06_ValueNames.l0 k1 a0 a1 (wrap64 (1 + (wrap64 (Int.tmod (IntKind.u64.wrap (a2)) (((a0.size : Int))))))) true (a1.size : Int) (wrap64 (x31_1 + 1))) else (if (bt a1 x31_1) ≥ 48 then (switchyardlaw06_ValueNames.l0 k1 a0 a1 (wrap64 (1 + (wrap64 (Int.tmod (IntKind.u64.wrap (a2)) (((a0.size : Int))))))) (decide ((bt a1 x31_1) ≤ 57)) (a1.size : Int) (wrap64 (x31_1 + 1))) else (switchyardlaw06_ValueNames.l0 k1 a0 a1 (wrap64 (1 + (wrap64 (Int.tmod (IntKind.u64.wrap (a2)) (((a0.size : Int))))))) false (a1.size : Int) (wrap64 (x31_1 + 1))))) else (none)) = some r := by rw [if_neg (show ¬ (false = true) by decide)] at H; exact H
                          clear H
                          have H := H1
                          clear H1
                          by_cases c20 : x31_1 < (a1.size : Int)
                          · rw [if_pos c20] at H
                            have c20b0 : decide (x31_1 < (a1.size : Int)) = true := decide_eq_true c20
                            clear c20
                            by_cases c22 : (bt a1 x31_1) = 95
                            · rw [if_pos c22] at H
                              have c22b0 : ((bt a1 x31_1) == 95) = true := beq_iff_eq.mpr c22
                              have c22b1 : ((bt a1 x31_1) != 95) = false := bne_eq_false_iff_eq.mpr c22
                              clear c22
                              have H' := Aside0.mk H
                              clear H
                              go_wp2_with (first | (go_at_call 11; refine calls_of_args (args' := #[.string (a1.extract (x31_1 : Int).toNat ((wrap64 (x31_1 + 1)) : Int).toNat)]) (by first | rfl) ?_; (with_reducible refine (value_Name.calls (a1.extract (x31_1 : Int).toNat ((wrap64 (x31_1 + 1)) : Int).toNat) false _ A17.out).mono ?_); rintro e w23 ⟨rfl, hb⟩; have n0_ := Aside0.mk (below_step (by repeat (first | (with_reducible first | exact HB.out | apply below_alloc | apply pw_below_drewN | apply below_drew1) | exact HB.out)) hb); clear HB; have HB := n0_; clear n0_; (try clear hb); (try clear hb2); (try clear hk); (try clear hi); have p21 : 0 ≤ (x31_1 : Int) := of_decide_eq_true (by first | (with_reducible assumption) | assumption); have q21 : x31_1 < (a1.size : Int) := of_decide_eq_true (by first | (with_reducible assumption) | assumption); have hx21 := bt_at a1 x31_1; replace p21 := eq_true p21; replace q21 := eq_true q21))
                              go_roundg k1
                              case measure => have := HK1.out; omega
                              case rel => exact ⟨(true), (wrap64 (x31_1 + 1)), (by first | rfl | (simp; done) | (simp [*]; done)), (by first | rfl | (simp; done) | (simp [*]; done)), H', ⟨by have := HK1.out; omega⟩, ⟨by repeat (first | (with_reducible first | exact HB.out | apply below_alloc | apply pw_below_drewN | apply below_drew1) | exact HB.out)⟩⟩
                            · rw [if_neg c22] at H
                              have c22b0 : ((bt a1 x31_1) == 95) = false := beq_eq_false_iff_ne.mpr c22
                              have c22b1 : ((bt a1 x31_1) != 95) = true := bne_iff_ne.mpr c22
                              by_cases c25 : (bt a1 x31_1) ≥ 48
                              · rw [if_pos c25] at H
                                have c25b0 : decide (48 ≤ (bt a1 x31_1)) = true := decide_eq_true c25
                                clear c25
                                have H' := Aside0.mk H
                                clear H
                                go_wp2_with (first | (go_at_call 11; refine calls_of_args (args' := #[.string (a1.extract (x31_1 : Int).toNat ((wrap64 (x31_1 + 1)) : Int).toNat)]) (by first | rfl) ?_; (with_reducible refine (value_Name.calls (a1.extract (x31_1 : Int).toNat ((wrap64 (x31_1 + 1)) : Int).toNat) false _ A17.out).mono ?_); rintro e w27 ⟨rfl, hb⟩; have n0_ := Aside0.mk (below_step (by repeat (first | (with_reducible first | exact HB.out | apply below_alloc | apply pw_below_drewN | apply below_drew1) | exact HB.out)) hb); clear HB; have HB := n0_; clear n0_; (try clear hb); (try clear hb2); (try clear hk); (try clear hi); have p21 : 0 ≤ (x31_1 : Int) := of_decide_eq_true (by first | (with_reducible assumption) | assumption); have q21 : x31_1 < (a1.size : Int) := of_decide_eq_true (by first | (with_reducible assumption) | assumption); have hx21 := bt_at a1 x31_1; replace p21 := eq_true p21; replace q21 := eq_true q21; have p24 : 0 ≤ (x31_1 : Int) := of_decide_eq_true (by first | (with_reducible assumption) | assumption); have q24 : x31_1 < (a1.size : Int) := of_decide_eq_true (by first | (with_reducible assumption) | assumption); have hx24 := bt_at a1 x31_1; replace p24 := eq_true p24; replace q24 := eq_true q24; have p26 : 0 ≤ (x31_1 : Int) := of_decide_eq_true (by first | (with_reducible assumption) | assumption); have q26 : x31_1 < (a1.size : Int) := of_decide_eq_true (by first | (with_reducible assumption) | assumption); have hx26 := bt_at a1 x31_1; replace p26 := eq_true p26; replace q26 := eq_true q26))
                                go_roundg k1
                                case measure => have := HK1.out; omega
                                case rel => exact ⟨(decide ((bt a1 x31_1) ≤ 57)), (wrap64 (x31_1 + 1)), (by first | rfl | (simp; done) | (simp [*]; done)), (by first | rfl | (simp; done) | (simp [*]; done)), H', ⟨by have := HK1.out; omega⟩, ⟨by repeat (first | (with_reducible first | exact HB.out | apply below_alloc | apply pw_below_drewN | apply below_drew1) | exact HB.out)⟩⟩
                              · rw [if_neg c25] at H
                                have c25b0 : decide (48 ≤ (bt a1 x31_1)) = false := decide_eq_false c25
                                clear c25
                                have H' := Aside0.mk H
                                clear H
                                go_wp2_with (first | (go_at_call 11; refine calls_of_args (args' := #[.string (a1.extract (x31_1 : Int).toNat ((wrap64 (x31_1 + 1)) : Int).toNat)]) (by first | rfl) ?_; (with_reducible refine (value_Name.calls (a1.extract (x31_1 : Int).toNat ((wrap64 (x31_1 + 1)) : Int).toNat) false _ A17.out).mono ?_); rintro e w28 ⟨rfl, hb⟩; have n0_ := Aside0.mk (below_step (by repeat (first | (with_reducible first | exact HB.out | apply below_alloc | apply pw_below_drewN | apply below_drew1) | exact HB.out)) hb); clear HB; have HB := n0_; clear n0_; (try clear hb); (try clear hb2); (try clear hk); (try clear hi); have p21 : 0 ≤ (x31_1 : Int) := of_decide_eq_true (by first | (with_reducible assumption) | assumption); have q21 : x31_1 < (a1.size : Int) := of_decide_eq_true (by first | (with_reducible assumption) | assumption); have hx21 := bt_at a1 x31_1; replace p21 := eq_true p21; replace q21 := eq_true q21; have p24 : 0 ≤ (x31_1 : Int) := of_decide_eq_true (by first | (with_reducible assumption) | assumption); have q24 : x31_1 < (a1.size : Int) := of_decide_eq_true (by first | (with_reducible assumption) | assumption); have hx24 := bt_at a1 x31_1; replace p24 := eq_true p24; replace q24 := eq_true q24))
                                go_roundg k1
                                case measure => have := HK1.out; omega
                                case rel => exact ⟨(false), (wrap64 (x31_1 + 1)), (by first | rfl | (simp; done) | (simp [*]; done)), (by first | rfl | (simp; done) | (simp [*]; done)), H', ⟨by have := HK1.out; omega⟩, ⟨by repeat (first | (with_reducible first | exact HB.out | apply below_alloc | apply pw_below_drewN | apply below_drew1) | exact HB.out)⟩⟩
                          · rw [if_neg c20] at H
                            exact absurd H (by simp)
                      · rw [if_neg c16] at H
                        exact absurd H (by simp)
                    · rw [if_neg c15] at H
                      exact absurd H (by simp)
                  · rw [if_neg c14] at H
                    exact absurd H (by simp)
                · replace c13 := Bool.eq_false_iff.mpr c13
                  subst c13
                  have H1 : (switchyardlaw06_ValueNames.l0 k1 a0 a1 (wrap64 (1 + (wrap64 (Int.tmod (IntKind.u64.wrap (a2)) (((a0.size : Int))))))) false (a1.size : Int) (wrap64 (x31_1 + 1))) = some r := by rw [if_neg (show ¬ (false = true) by decide)] at H; exact H
                  clear H
                  have H := H1
                  clear H1
                  have H' := Aside0.mk H
                  clear H
                  go_wp2
                  go_roundg k1
                  case measure => have := HK1.out; omega
                  case rel => exact ⟨(false), (wrap64 (x31_1 + 1)), (by first | rfl | (simp; done) | (simp [*]; done)), (by first | rfl | (simp; done) | (simp [*]; done)), H', ⟨by have := HK1.out; omega⟩, ⟨by repeat (first | (with_reducible first | exact HB.out | apply below_alloc | apply pw_below_drewN | apply below_drew1) | exact HB.out)⟩⟩
              · rw [if_neg c12] at H
                have c12b0 : decide (x31_1 < (a1.size : Int)) = false := decide_eq_false c12
                clear c12
                replace H := Option.bind_eq_some_iff.mp H
                obtain ⟨t167, A290, H⟩ := H
                replace H : (if t167 = true then (if 0 ≤ (wrap64 (1 + (wrap64 (Int.tmod (IntKind.u64.wrap (a2)) (((a0.size : Int))))))) then (if (wrap64 (1 + (wrap64 (Int.tmod (IntKind.u64.wrap (a2)) (((a0.size : Int))))))) ≤ (a0.size : Int) then ((value_Name.f (a0.extract 0 ((wrap64 (1 + (wrap64 (Int.tmod (IntKind.u64.wrap (a2)) (((a0.size : Int))))))) : Int).toNat)).bind fun t168 => (if t168 = true then (if 1 + a0.size ≤ 9223372036854775807 then ((value_Name.f ((⟨#[49]⟩ : ByteArray) ++ a0)).bind fun t169 => (if t169 = true then (some false) else ((value_Name.f ((⟨#[95]⟩ : ByteArray) ++ a0)).bind fun t170 => (if t170 = true then (some false) else (if (a1.size : Int) > 100 then (some true) else (if a0.size + a1.size ≤ 9223372036854775807 then ((value_Name.f (a0 ++ a1)).bind fun t171 => (some (t171 == x8_1))) else (none))))))) else (none)) else (some false))) else (none)) else (none)) else (some false)) = some r := H
                have A29 := Aside0.mk A290
                clear A290
                by_cases c30 : t167 = true
                · subst c30
                  have H1 : (if 0 ≤ (wrap64 (1 + (wrap64 (Int.tmod (IntKind.u64.wrap (a2)) (((a0.size : Int))))))) then (if (wrap64 (1 + (wrap64 (Int.tmod (IntKind.u64.wrap (a2)) (((a0.size : Int))))))) ≤ (a0.size : Int) then ((value_Name.f (a0.extract 0 ((wrap64 (1 + (wrap64 (Int.tmod (IntKind.u64.wrap (a2)) (((a0.size : Int))))))) : Int).toNat)).bind fun t168 => (if t168 = true then (if 1 + a0.size ≤ 9223372036854775807 then ((value_Name.f ((⟨#[49]⟩ : ByteArray) ++ a0)).bind fun t169 => (if t169 = true then (some false) else ((value_Name.f ((⟨#[95]⟩ : ByteArray) ++ a0)).bind fun t170 => (if t170 = true then (some false) else (if (a1.size : Int) > 100 then (some true) else (if a0.size + a1.size ≤ 9223372036854775807 then ((value_Name.f (a0 ++ a1)).bind fun t171 => (some (t171 == x8_1))) else (none))))))) else (none)) else (some false))) else (none)) else (none)) = some r := by rw [if_pos rfl] at H; exact H
                  clear H
                  have H := H1
                  clear H1
                  obtain ⟨ji31, hji31⟩ : ∃ j_ : Int, (wrap64 (1 + (wrap64 (Int.tmod (IntKind.u64.wrap (a2)) (((a0.size : Int))))))) = j_ := ⟨_, rfl⟩
                  replace H : (if 0 ≤ (ji31) then (if (ji31) ≤ (a0.size : Int) then ((value_Name.f (a0.extract 0 ((ji31) : Int).toNat)).bind fun t168 => (if t168 = true then (if 1 + a0.size ≤ 9223372036854775807 then ((value_Name.f ((⟨#[49]⟩ : ByteArray) ++ a0)).bind fun t169 => (if t169 = true then (some false) else ((value_Name.f ((⟨#[95]⟩ : ByteArray) ++ a0)).bind fun t170 => (if t170 = true then (some false) else (if (a1.size : Int) > 100 then (some true) else (if a0.size + a1.size ≤ 9223372036854775807 then ((value_Name.f (a0 ++ a1)).bind fun t171 => (some (t171 == x8_1))) else (none))))))) else (none)) else (some false))) else (none)) else (none)) = some r := by first | (rw [hji31] at H; exact H) | (simp only [hji31] at H ⊢; exact H)
                  (try rw [hji31] at A29)
                  have hji31w : (IntKind.i64.wrap (1 + (wrap64 (Int.tmod (IntKind.u64.wrap (a2)) (((a0.size : Int))))))) = ji31 := (i64_w _).trans hji31
                  by_cases c32 : 0 ≤ (ji31)
                  · rw [if_pos c32] at H
                    have c32b0 := eq_true c32
                    have c32b1 : decide (0 ≤ (ji31)) = true := decide_eq_true c32
                    clear c32
                    by_cases c33 : (ji31) ≤ (a0.size : Int)
                    · rw [if_pos c33] at H
                      have c33b0 := eq_true c33
                      have c33b1 : decide ((ji31) ≤ (a0.size : Int)) = true := decide_eq_true c33
                      clear c33
                      replace H := Option.bind_eq_some_iff.mp H
                      obtain ⟨t168, A340, H⟩ := H
                      replace H : (if t168 = true then (if 1 + a0.size ≤ 9223372036854775807 then ((value_Name.f ((⟨#[49]⟩ : ByteArray) ++ a0)).bind fun t169 => (if t169 = true then (some false) else ((value_Name.f ((⟨#[95]⟩ : ByteArray) ++ a0)).bind fun t170 => (if t170 = true then (some false) else (if (a1.size : Int) > 100 then (some true) else (if a0.size + a1.size ≤ 9223372036854775807 then ((value_Name.f (a0 ++ a1)).bind fun t171 => (some (t171 == x8_1))) else (none))))))) else (none)) else (some false)) = some r := H
                      have A34 := Aside0.mk A340
                      clear A340
                      by_cases c35 : t168 = true
                      · subst c35
                        have H1 : (if 1 + a0.size ≤ 9223372036854775807 then ((value_Name.f ((⟨#[49]⟩ : ByteArray) ++ a0)).bind fun t169 => (if t169 = true then (some false) else ((value_Name.f ((⟨#[95]⟩ : ByteArray) ++ a0)).bind fun t170 => (if t170 = true then (some false) else (if (a1.size : Int) > 100 then (some true) else (if a0.size + a1.size ≤ 9223372036854775807 then ((value_Name.f (a0 ++ a1)).bind fun t171 => (some (t171 == x8_1))) else (none))))))) else (none)) = some r := by rw [if_pos rfl] at H; exact H
                        clear H
                        have H := H1
                        clear H1
                        by_cases c36 : 1 + a0.size ≤ 9223372036854775807
                        · rw [if_pos c36] at H
                          have c36b0 := eq_true c36
                          have c36b1 : decide (1 + a0.size ≤ 9223372036854775807) = true := decide_eq_true c36
                          try have c36b2 : (9223372036854775807 < 1 + a0.size) = False := eq_false (Nat.not_lt.2 c36)
                          try (have c36s := c36; simp only [ByteArray.size_append, bsize_mk, List.size_toArray, List.length_cons, List.length_nil, Nat.reduceAdd, Nat.zero_add] at c36s)
                          try have c36s2 := eq_false (Nat.not_lt.2 c36s)
                          replace H := Option.bind_eq_some_iff.mp H
                          obtain ⟨t169, A370, H⟩ := H
                          replace H : (if t169 = true then (some false) else ((value_Name.f ((⟨#[95]⟩ : ByteArray) ++ a0)).bind fun t170 => (if t170 = true then (some false) else (if (a1.size : Int) > 100 then (some true) else (if a0.size + a1.size ≤ 9223372036854775807 then ((value_Name.f (a0 ++ a1)).bind fun t171 => (some (t171 == x8_1))) else (none)))))) = some r := H
                          have A37 := Aside0.mk A370
                          clear A370
                          by_cases c38 : t169 = true
                          · subst c38
                            have H1 : (some false) = some r := by rw [if_pos rfl] at H; exact H
                            clear H
                            have H := H1
                            clear H1
                            obtain rfl := Option.some.inj H
                            go_wp2_with (first | ((with_reducible refine gate_callee (f := 10) rfl ?_); refine goesL_ (some 62) rfl rfl Tryd.func10 (by kernel_rfl) rfl #[] rfl (by (try simp only [List.map_toArray, List.map_cons, List.map_nil]); first | done | rfl | (simp only [List.length_drop, List.length_take]; rfl)) ?_; (with_reducible refine (switchyardlaw06_awake.calls k1  true _ A29.out (Tabs.below HT.out (by repeat (first | (with_reducible first | exact HB.out | apply below_alloc | apply pw_below_drewN | apply below_drew1) | exact HB.out)))).mono ?_); rintro e w39 ⟨rfl, hb⟩; refine ⟨_, rfl, ?_⟩; have n0_ := Aside0.mk (below_step (by repeat (first | (with_reducible first | exact HB.out | apply below_alloc | apply pw_below_drewN | apply below_drew1) | exact HB.out)) hb); clear HB; have HB := n0_; clear n0_; (try clear hb); (try clear hb2); (try clear hk); (try clear hi)) | (go_at_call 11; refine calls_of_args (args' := #[.string (a0.extract 0 ((ji31) : Int).toNat)]) (by first | rfl) ?_; (with_reducible refine (value_Name.calls (a0.extract 0 ((ji31) : Int).toNat) true _ A34.out).mono ?_); rintro e w40 ⟨rfl, hb⟩; have n0_ := Aside0.mk (below_step (by repeat (first | (with_reducible first | exact HB.out | apply below_alloc | apply pw_below_drewN | apply below_drew1) | exact HB.out)) hb); clear HB; have HB := n0_; clear n0_; (try clear hb); (try clear hb2); (try clear hk); (try clear hi)) | (go_at_call 11; refine calls_of_args (args' := #[.string ((⟨#[49]⟩ : ByteArray) ++ a0)]) (by first | rfl) ?_; (with_reducible refine (value_Name.calls ((⟨#[49]⟩ : ByteArray) ++ a0) true _ A37.out).mono ?_); rintro e w41 ⟨rfl, hb⟩; have n0_ := Aside0.mk (below_step (by repeat (first | (with_reducible first | exact HB.out | apply below_alloc | apply pw_below_drewN | apply below_drew1) | exact HB.out)) hb); clear HB; have HB := n0_; clear n0_; (try clear hb); (try clear hb2); (try clear hk); (try clear hi)))
                            go_ret
                            exact ⟨by first | rfl | (simp [errW_none, errW_some] <;> rfl) | (simp only [← hji31]; first | rfl | (simp [errW_none, errW_some] <;> rfl)) | (simp [*, errW_none, errW_some] <;> rfl), by repeat (first | (with_reducible first | exact HB.out | apply below_alloc | apply pw_below_drewN | apply below_drew1) | exact HB.out)⟩
                          · replace c38 := Bool.eq_false_iff.mpr c38
                            subst c38
                            have H1 : ((value_Name.f ((⟨#[95]⟩ : ByteArray) ++ a0)).bind fun t170 => (if t170 = true then (some false) else (if (a1.size : Int) > 100 then (some true) else (if a0.size + a1.size ≤ 9223372036854775807 then ((value_Name.f (a0 ++ a1)).bind fun t171 => (some (t171 == x8_1))) else (none))))) = some r := by rw [if_neg (show ¬ (false = true) by decide)] at H; exact H
                            clear H
                            have H := H1
                            clear H1
                            replace H := Option.bind_eq_some_iff.mp H
                            obtain ⟨t170, A420, H⟩ := H
                            replace H : (if t170 = true then (some false) else (if (a1.size : Int) > 100 then (some true) else (if a0.size + a1.size ≤ 9223372036854775807 then ((value_Name.f (a0 ++ a1)).bind fun t171 => (some (t171 == x8_1))) else (none)))) = some r := H
                            have A42 := Aside0.mk A420
                            clear A420
                            by_cases c43 : t170 = true
                            · subst c43
                              have H1 : (some false) = some r := by rw [if_pos rfl] at H; exact H
                              clear H
                              have H := H1
                              clear H1
                              obtain rfl := Option.some.inj H
                              go_wp2_with (first | ((with_reducible refine gate_callee (f := 10) rfl ?_); refine goesL_ (some 62) rfl rfl Tryd.func10 (by kernel_rfl) rfl #[] rfl (by (try simp only [List.map_toArray, List.map_cons, List.map_nil]); first | done | rfl | (simp only [List.length_drop, List.length_take]; rfl)) ?_; (with_reducible refine (switchyardlaw06_awake.calls k1  true _ A29.out (Tabs.below HT.out (by repeat (first | (with_reducible first | exact HB.out | apply below_alloc | apply pw_below_drewN | apply below_drew1) | exact HB.out)))).mono ?_); rintro e w44 ⟨rfl, hb⟩; refine ⟨_, rfl, ?_⟩; have n0_ := Aside0.mk (below_step (by repeat (first | (with_reducible first | exact HB.out | apply below_alloc | apply pw_below_drewN | apply below_drew1) | exact HB.out)) hb); clear HB; have HB := n0_; clear n0_; (try clear hb); (try clear hb2); (try clear hk); (try clear hi)) | (go_at_call 11; refine calls_of_args (args' := #[.string (a0.extract 0 ((ji31) : Int).toNat)]) (by first | rfl) ?_; (with_reducible refine (value_Name.calls (a0.extract 0 ((ji31) : Int).toNat) true _ A34.out).mono ?_); rintro e w45 ⟨rfl, hb⟩; have n0_ := Aside0.mk (below_step (by repeat (first | (with_reducible first | exact HB.out | apply below_alloc | apply pw_below_drewN | apply below_drew1) | exact HB.out)) hb); clear HB; have HB := n0_; clear n0_; (try clear hb); (try clear hb2); (try clear hk); (try clear hi)) | (go_at_call 11; refine calls_of_args (args' := #[.string ((⟨#[49]⟩ : ByteArray) ++ a0)]) (by first | rfl) ?_; (with_reducible refine (value_Name.calls ((⟨#[49]⟩ : ByteArray) ++ a0) false _ A37.out).mono ?_); rintro e w46 ⟨rfl, hb⟩; have n0_ := Aside0.mk (below_step (by repeat (first | (with_reducible first | exact HB.out | apply below_alloc | apply pw_below_drewN | apply below_drew1) | exact HB.out)) hb); clear HB; have HB := n0_; clear n0_; (try clear hb); (try clear hb2); (try clear hk); (try clear hi)) | (go_at_call 11; refine calls_of_args (args' := #[.string ((⟨#[95]⟩ : ByteArray) ++ a0)]) (by first | rfl) ?_; (with_reducible refine (value_Name.calls ((⟨#[95]⟩ : ByteArray) ++ a0) true _ A42.out).mono ?_); rintro e w47 ⟨rfl, hb⟩; have n0_ := Aside0.mk (below_step (by repeat (first | (with_reducible first | exact HB.out | apply below_alloc | apply pw_below_drewN | apply below_drew1) | exact HB.out)) hb); clear HB; have HB := n0_; clear n0_; (try clear hb); (try clear hb2); (try clear hk); (try clear hi)))
                              go_ret
                              exact ⟨by first | rfl | (simp [errW_none, errW_some] <;> rfl) | (simp only [← hji31]; first | rfl | (simp [errW_none, errW_some] <;> rfl)) | (simp [*, errW_none, errW_some] <;> rfl), by repeat (first | (with_reducible first | exact HB.out | apply below_alloc | apply pw_below_drewN | apply below_drew1) | exact HB.out)⟩
                            · replace c43 := Bool.eq_false_iff.mpr c43
                              subst c43
                              have H1 : (if (a1.size : Int) > 100 then (some true) else (if a0.size + a1.size ≤ 9223372036854775807 then ((value_Name.f (a0 ++ a1)).bind fun t171 => (some (t171 == x8_1))) else (none))) = some r := by rw [if_neg (show ¬ (false = true) by decide)] at H; exact H
                              clear H
                              have H := H1
                              clear H1
                              by_cases c48 : (a1.size : Int) > 100
                              · rw [if_pos c48] at H
                                have c48b0 : decide (100 < (a1.size : Int)) = true := decide_eq_true c48
                                have c48b1 : decide (100 < a1.size) = true := decide_eq_true (by omega)
                                clear c48
                                obtain rfl := Option.some.inj H
                                go_wp2_with (first | ((with_reducible refine gate_callee (f := 10) rfl ?_); refine goesL_ (some 62) rfl rfl Tryd.func10 (by kernel_rfl) rfl #[] rfl (by (try simp only [List.map_toArray, List.map_cons, List.map_nil]); first | done | rfl | (simp only [List.length_drop, List.length_take]; rfl)) ?_; (with_reducible refine (switchyardlaw06_awake.calls k1  true _ A29.out (Tabs.below HT.out (by repeat (first | (with_reducible first | exact HB.out | apply below_alloc | apply pw_below_drewN | apply below_drew1) | exact HB.out)))).mono ?_); rintro e w49 ⟨rfl, hb⟩; refine ⟨_, rfl, ?_⟩; have n0_ := Aside0.mk (below_step (by repeat (first | (with_reducible first | exact HB.out | apply below_alloc | apply pw_below_drewN | apply below_drew1) | exact HB.out)) hb); clear HB; have HB := n0_; clear n0_; (try clear hb); (try clear hb2); (try clear hk); (try clear hi)) | (go_at_call 11; refine calls_of_args (args' := #[.string (a0.extract 0 ((ji31) : Int).toNat)]) (by first | rfl) ?_; (with_reducible refine (value_Name.calls (a0.extract 0 ((ji31) : Int).toNat) true _ A34.out).mono ?_); rintro e w50 ⟨rfl, hb⟩; have n0_ := Aside0.mk (below_step (by repeat (first | (with_reducible first | exact HB.out | apply below_alloc | apply pw_below_drewN | apply below_drew1) | exact HB.out)) hb); clear HB; have HB := n0_; clear n0_; (try clear hb); (try clear hb2); (try clear hk); (try clear hi)) | (go_at_call 11; refine calls_of_args (args' := #[.string ((⟨#[49]⟩ : ByteArray) ++ a0)]) (by first | rfl) ?_; (with_reducible refine (value_Name.calls ((⟨#[49]⟩ : ByteArray) ++ a0) false _ A37.out).mono ?_); rintro e w51 ⟨rfl, hb⟩; have n0_ := Aside0.mk (below_step (by repeat (first | (with_reducible first | exact HB.out | apply below_alloc | apply pw_below_drewN | apply below_drew1) | exact HB.out)) hb); clear HB; have HB := n0_; clear n0_; (try clear hb); (try clear hb2); (try clear hk); (try clear hi)) | (go_at_call 11; refine calls_of_args (args' := #[.string ((⟨#[95]⟩ : ByteArray) ++ a0)]) (by first | rfl) ?_; (with_reducible refine (value_Name.calls ((⟨#[95]⟩ : ByteArray) ++ a0) false _ A42.out).mono ?_); rintro e w52 ⟨rfl, hb⟩; have n0_ := Aside0.mk (below_step (by repeat (first | (with_reducible first | exact HB.out | apply below_alloc | apply pw_below_drewN | apply below_drew1) | exact HB.out)) hb); clear HB; have HB := n0_; clear n0_; (try clear hb); (try clear hb2); (try clear hk); (try clear hi)))
                                go_ret
                                exact ⟨by first | rfl | (simp [errW_none, errW_some] <;> rfl) | (simp only [← hji31]; first | rfl | (simp [errW_none, errW_some] <;> rfl)) | (simp [*, errW_none, errW_some] <;> rfl), by repeat (first | (with_reducible first | exact HB.out | apply below_alloc | apply pw_below_drewN | apply below_drew1) | exact HB.out)⟩
                              · rw [if_neg c48] at H
                                have c48b0 : decide (100 < (a1.size : Int)) = false := decide_eq_false c48
                                have c48b1 : decide (100 < a1.size) = false := decide_eq_false (by omega)
                                clear c48
                                by_cases c53 : a0.size + a1.size ≤ 9223372036854775807
                                · rw [if_pos c53] at H
                                  have c53b0 := eq_true c53
                                  have c53b1 : decide (a0.size + a1.size ≤ 9223372036854775807) = true := decide_eq_true c53
                                  try have c53b2 : (9223372036854775807 < a0.size + a1.size) = False := eq_false (Nat.not_lt.2 c53)
                                  try (have c53s := c53; simp only [ByteArray.size_append, bsize_mk, List.size_toArray, List.length_cons, List.length_nil, Nat.reduceAdd, Nat.zero_add] at c53s)
                                  try have c53s2 := eq_false (Nat.not_lt.2 c53s)
                                  replace H := Option.bind_eq_some_iff.mp H
                                  obtain ⟨t171, A540, H⟩ := H
                                  replace H : (some (t171 == x8_1)) = some r := H
                                  have A54 := Aside0.mk A540
                                  clear A540
                                  obtain rfl := Option.some.inj H
                                  go_wp2_with (first | ((with_reducible refine gate_callee (f := 10) rfl ?_); refine goesL_ (some 62) rfl rfl Tryd.func10 (by kernel_rfl) rfl #[] rfl (by (try simp only [List.map_toArray, List.map_cons, List.map_nil]); first | done | rfl | (simp only [List.length_drop, List.length_take]; rfl)) ?_; (with_reducible refine (switchyardlaw06_awake.calls k1  true _ A29.out (Tabs.below HT.out (by repeat (first | (with_reducible first | exact HB.out | apply below_alloc | apply pw_below_drewN | apply below_drew1) | exact HB.out)))).mono ?_); rintro e w55 ⟨rfl, hb⟩; refine ⟨_, rfl, ?_⟩; have n0_ := Aside0.mk (below_step (by repeat (first | (with_reducible first | exact HB.out | apply below_alloc | apply pw_below_drewN | apply below_drew1) | exact HB.out)) hb); clear HB; have HB := n0_; clear n0_; (try clear hb); (try clear hb2); (try clear hk); (try clear hi)) | (go_at_call 11; refine calls_of_args (args' := #[.string (a0.extract 0 ((ji31) : Int).toNat)]) (by first | rfl) ?_; (with_reducible refine (value_Name.calls (a0.extract 0 ((ji31) : Int).toNat) true _ A34.out).mono ?_); rintro e w56 ⟨rfl, hb⟩; have n0_ := Aside0.mk (below_step (by repeat (first | (with_reducible first | exact HB.out | apply below_alloc | apply pw_below_drewN | apply below_drew1) | exact HB.out)) hb); clear HB; have HB := n0_; clear n0_; (try clear hb); (try clear hb2); (try clear hk); (try clear hi)) | (go_at_call 11; refine calls_of_args (args' := #[.string ((⟨#[49]⟩ : ByteArray) ++ a0)]) (by first | rfl) ?_; (with_reducible refine (value_Name.calls ((⟨#[49]⟩ : ByteArray) ++ a0) false _ A37.out).mono ?_); rintro e w57 ⟨rfl, hb⟩; have n0_ := Aside0.mk (below_step (by repeat (first | (with_reducible first | exact HB.out | apply below_alloc | apply pw_below_drewN | apply below_drew1) | exact HB.out)) hb); clear HB; have HB := n0_; clear n0_; (try clear hb); (try clear hb2); (try clear hk); (try clear hi)) | (go_at_call 11; refine calls_of_args (args' := #[.string ((⟨#[95]⟩ : ByteArray) ++ a0)]) (by first | rfl) ?_; (with_reducible refine (value_Name.calls ((⟨#[95]⟩ : ByteArray) ++ a0) false _ A42.out).mono ?_); rintro e w58 ⟨rfl, hb⟩; have n0_ := Aside0.mk (below_step (by repeat (first | (with_reducible first | exact HB.out | apply below_alloc | apply pw_below_drewN | apply below_drew1) | exact HB.out)) hb); clear HB; have HB := n0_; clear n0_; (try clear hb); (try clear hb2); (try clear hk); (try clear hi)) | (go_at_call 11; refine calls_of_args (args' := #[.string (a0 ++ a1)]) (by first | rfl) ?_; (with_reducible refine (value_Name.calls (a0 ++ a1) t171 _ A54.out).mono ?_); rintro e w59 ⟨rfl, hb⟩; have n0_ := Aside0.mk (below_step (by repeat (first | (with_reducible first | exact HB.out | apply below_alloc | apply pw_below_drewN | apply below_drew1) | exact HB.out)) hb); clear HB; have HB := n0_; clear n0_; (try clear hb); (try clear hb2); (try clear hk); (try clear hi)))
                                  go_ret
                                  exact ⟨by first | rfl | (simp [errW_none, errW_some] <;> rfl) | (simp only [← hji31]; first | rfl | (simp [errW_none, errW_some] <;> rfl)) | (simp [*, errW_none, errW_some] <;> rfl), by repeat (first | (with_reducible first | exact HB.out | apply below_alloc | apply pw_below_drewN | apply below_drew1) | exact HB.out)⟩
                                · rw [if_neg c53] at H
                                  exact absurd H (by simp)
                        · rw [if_neg c36] at H
                          exact absurd H (by simp)
                      · replace c35 := Bool.eq_false_iff.mpr c35
                        subst c35
                        have H1 : (some false) = some r := by rw [if_neg (show ¬ (false = true) by decide)] at H; exact H
                        clear H
                        have H := H1
                        clear H1
                        obtain rfl := Option.some.inj H
                        go_wp2_with (first | ((with_reducible refine gate_callee (f := 10) rfl ?_); refine goesL_ (some 62) rfl rfl Tryd.func10 (by kernel_rfl) rfl #[] rfl (by (try simp only [List.map_toArray, List.map_cons, List.map_nil]); first | done | rfl | (simp only [List.length_drop, List.length_take]; rfl)) ?_; (with_reducible refine (switchyardlaw06_awake.calls k1  true _ A29.out (Tabs.below HT.out (by repeat (first | (with_reducible first | exact HB.out | apply below_alloc | apply pw_below_drewN | apply below_drew1) | exact HB.out)))).mono ?_); rintro e w60 ⟨rfl, hb⟩; refine ⟨_, rfl, ?_⟩; have n0_ := Aside0.mk (below_step (by repeat (first | (with_reducible first | exact HB.out | apply below_alloc | apply pw_below_drewN | apply below_drew1) | exact HB.out)) hb); clear HB; have HB := n0_; clear n0_; (try clear hb); (try clear hb2); (try clear hk); (try clear hi)) | (go_at_call 11; refine calls_of_args (args' := #[.string (a0.extract 0 ((ji31) : Int).toNat)]) (by first | rfl) ?_; (with_reducible refine (value_Name.calls (a0.extract 0 ((ji31) : Int).toNat) false _ A34.out).mono ?_); rintro e w61 ⟨rfl, hb⟩; have n0_ := Aside0.mk (below_step (by repeat (first | (with_reducible first | exact HB.out | apply below_alloc | apply pw_below_drewN | apply below_drew1) | exact HB.out)) hb); clear HB; have HB := n0_; clear n0_; (try clear hb); (try clear hb2); (try clear hk); (try clear hi)))
                        go_ret
                        exact ⟨by first | rfl | (simp [errW_none, errW_some] <;> rfl) | (simp only [← hji31]; first | rfl | (simp [errW_none, errW_some] <;> rfl)) | (simp [*, errW_none, errW_some] <;> rfl), by repeat (first | (with_reducible first | exact HB.out | apply below_alloc | apply pw_below_drewN | apply below_drew1) | exact HB.out)⟩
                    · rw [if_neg c33] at H
                      exact absurd H (by simp)
                  · rw [if_neg c32] at H
                    exact absurd H (by simp)
                · replace c30 := Bool.eq_false_iff.mpr c30
                  subst c30
                  have H1 : (some false) = some r := by rw [if_neg (show ¬ (false = true) by decide)] at H; exact H
                  clear H
                  have H := H1
                  clear H1
                  obtain rfl := Option.some.inj H
                  go_wp2_with (first | ((with_reducible refine gate_callee (f := 10) rfl ?_); refine goesL_ (some 62) rfl rfl Tryd.func10 (by kernel_rfl) rfl #[] rfl (by (try simp only [List.map_toArray, List.map_cons, List.map_nil]); first | done | rfl | (simp only [List.length_drop, List.length_take]; rfl)) ?_; (with_reducible refine (switchyardlaw06_awake.calls k1  false _ A29.out (Tabs.below HT.out (by repeat (first | (with_reducible first | exact HB.out | apply below_alloc | apply pw_below_drewN | apply below_drew1) | exact HB.out)))).mono ?_); rintro e w62 ⟨rfl, hb⟩; refine ⟨_, rfl, ?_⟩; have n0_ := Aside0.mk (below_step (by repeat (first | (with_reducible first | exact HB.out | apply below_alloc | apply pw_below_drewN | apply below_drew1) | exact HB.out)) hb); clear HB; have HB := n0_; clear n0_; (try clear hb); (try clear hb2); (try clear hk); (try clear hi)))
                  go_ret
                  exact ⟨by first | rfl | (simp [errW_none, errW_some] <;> rfl) | (simp [*, errW_none, errW_some] <;> rfl), by repeat (first | (with_reducible first | exact HB.out | apply below_alloc | apply pw_below_drewN | apply below_drew1) | exact HB.out)⟩
        · rw [if_neg c9] at H
          exact absurd H (by simp)
    · replace c7 := Bool.eq_false_iff.mpr c7
      subst c7
      have H1 : ((switchyardlaw06_awake.f k).bind fun t165 => (some t165)) = some r := by rw [if_neg (show ¬ (false = true) by decide)] at H; exact H
      clear H
      have H := H1
      clear H1
      replace H := Option.bind_eq_some_iff.mp H
      obtain ⟨t165, A630, H⟩ := H
      replace H : (some t165) = some r := H
      have A63 := Aside0.mk A630
      clear A630
      obtain rfl := Option.some.inj H
      go_enter Tryd.func5, Tryd.ntmps5
      go_wp2_with (first | ((with_reducible refine gate_callee (f := 10) rfl ?_); refine goesL_ (some 10) rfl rfl Tryd.func10 (by kernel_rfl) rfl #[] rfl (by (try simp only [List.map_toArray, List.map_cons, List.map_nil]); first | done | rfl | (simp only [List.length_drop, List.length_take]; rfl)) ?_; (with_reducible refine (switchyardlaw06_awake.calls k  true _ A4.out (Tabs.below HT.out (by repeat (first | (with_reducible first | exact HB.out | apply below_alloc | apply pw_below_drewN | apply below_drew1) | exact HB.out)))).mono ?_); rintro e w64 ⟨rfl, hb⟩; refine ⟨_, rfl, ?_⟩; have n0_ := Aside0.mk (below_step (by repeat (first | (with_reducible first | exact HB.out | apply below_alloc | apply pw_below_drewN | apply below_drew1) | exact HB.out)) hb); clear HB; have HB := n0_; clear n0_; (try clear hb); (try clear hb2); (try clear hk); (try clear hi)) | ((with_reducible refine gate_callee (f := 11) rfl ?_); refine goesL_ (some 13) rfl rfl Tryd.func11 (by kernel_rfl) rfl #[.string a0] rfl (by (try simp only [List.map_toArray, List.map_cons, List.map_nil]); first | done | rfl | (simp only [List.length_drop, List.length_take]; rfl)) ?_; (with_reducible refine (value_Name.calls a0 false _ A6.out).mono ?_); rintro e w65 ⟨rfl, hb⟩; refine ⟨_, rfl, ?_⟩; have n0_ := Aside0.mk (below_step (by repeat (first | (with_reducible first | exact HB.out | apply below_alloc | apply pw_below_drewN | apply below_drew1) | exact HB.out)) hb); clear HB; have HB := n0_; clear n0_; (try clear hb); (try clear hb2); (try clear hk); (try clear hi)) | ((with_reducible refine gate_callee (f := 10) rfl ?_); refine goesL_ (some 15) rfl rfl Tryd.func10 (by kernel_rfl) rfl #[] rfl (by (try simp only [List.map_toArray, List.map_cons, List.map_nil]); first | done | rfl | (simp only [List.length_drop, List.length_take]; rfl)) ?_; (with_reducible refine (switchyardlaw06_awake.calls k  t165 _ A63.out (Tabs.below HT.out (by repeat (first | (with_reducible first | exact HB.out | apply below_alloc | apply pw_below_drewN | apply below_drew1) | exact HB.out)))).mono ?_); rintro e w66 ⟨rfl, hb⟩; refine ⟨_, rfl, ?_⟩; have n0_ := Aside0.mk (below_step (by repeat (first | (with_reducible first | exact HB.out | apply below_alloc | apply pw_below_drewN | apply below_drew1) | exact HB.out)) hb); clear HB; have HB := n0_; clear n0_; (try clear hb); (try clear hb2); (try clear hk); (try clear hi)))
      go_ret
      exact ⟨by first | rfl | (simp [errW_none, errW_some] <;> rfl) | (simp [*, errW_none, errW_some] <;> rfl), by repeat (first | (with_reducible first | exact HB.out | apply below_alloc | apply pw_below_drewN | apply below_drew1) | exact HB.out)⟩
  · replace c5 := Bool.eq_false_iff.mpr c5
    subst c5
    have H1 : (some false) = some r := by rw [if_neg (show ¬ (false = true) by decide)] at H; exact H
    clear H
    have H := H1
    clear H1
    obtain rfl := Option.some.inj H
    go_enter Tryd.func5, Tryd.ntmps5
    go_wp2_with (first | ((with_reducible refine gate_callee (f := 10) rfl ?_); refine goesL_ (some 10) rfl rfl Tryd.func10 (by kernel_rfl) rfl #[] rfl (by (try simp only [List.map_toArray, List.map_cons, List.map_nil]); first | done | rfl | (simp only [List.length_drop, List.length_take]; rfl)) ?_; (with_reducible refine (switchyardlaw06_awake.calls k  false _ A4.out (Tabs.below HT.out (by repeat (first | (with_reducible first | exact HB.out | apply below_alloc | apply pw_below_drewN | apply below_drew1) | exact HB.out)))).mono ?_); rintro e w67 ⟨rfl, hb⟩; refine ⟨_, rfl, ?_⟩; have n0_ := Aside0.mk (below_step (by repeat (first | (with_reducible first | exact HB.out | apply below_alloc | apply pw_below_drewN | apply below_drew1) | exact HB.out)) hb); clear HB; have HB := n0_; clear n0_; (try clear hb); (try clear hb2); (try clear hk); (try clear hi)))
    go_ret
    exact ⟨by first | rfl | (simp [errW_none, errW_some] <;> rfl) | (simp [*, errW_none, errW_some] <;> rfl), by repeat (first | (with_reducible first | exact HB.out | apply below_alloc | apply pw_below_drewN | apply below_drew1) | exact HB.out)⟩

end Go.Proofs.YtdmmgeggljlceaaDoor.XV
