-- Printed by a program of this session's own (wip/xprint.py, which drives the kit's print); Lean checks it.
import Derived.Test.YtdmmgeggljlceaaDoorXV0
import Derived.Test.YtdmmgeggljlceaaDoorXV5
namespace Go.Proofs.YtdmmgeggljlceaaDoor.XV
open Go.RowKit Go.Proofs.YtdmmgeggljlceaaDoorW.PrintWords Go.Proofs.YtdmmgeggljlceaaDoorW.PrintLast Go.Proofs.YtdmmgeggljlceaaDoorW.PrintMore
attribute [local go_sem] max2_int min2_int max_two min_two max_three min_three max_four min_four   -- for this text's walks alone
set_option linter.unusedVariables false
set_option linter.unusedSimpArgs false

/-! ### switchyardref06_Name: function 12 -/
mutual
def switchyardref06_Name.j0 : Nat → ByteArray → Bool → Option (Bool)
  | 0, _, _ => none
  | k + 1, x0, x3 => switchyardref06_Name.l0 k x0 x3 0
def switchyardref06_Name.l0 : Nat → ByteArray → Bool → Int → Option (Bool)
  | 0, _, _, _ => none
  | k + 1, x0, x3, x4 => if x4 < (x0.size : Int) then (switchyardref06_Name.j2 k x0 x3 x4 x3) else (switchyardref06_Name.j2 k x0 x3 x4 false)
def switchyardref06_Name.j2 : Nat → ByteArray → Bool → Int → Bool → Option (Bool)
  | 0, _, _, _, _ => none
  | k + 1, x0, x3, x4, x19 => if x19 = true then (if 0 ≤ x4 then (if x4 < (x0.size : Int) then ((switchyardref06_in.f k (bt x0 x4) (⟨#[97, 98, 99, 100, 101, 102, 103, 104, 105, 106, 107, 108, 109, 110, 111, 112, 113, 114, 115, 116, 117, 118, 119, 120, 121, 122, 65, 66, 67, 68, 69, 70, 71, 72, 73, 74, 75, 76, 77, 78, 79, 80, 81, 82, 83, 84, 85, 86, 87, 88, 89, 90]⟩ : ByteArray)).bind fun t131 => (if t131 = true then (switchyardref06_Name.l0 k x0 true (wrap64 (x4 + 1))) else (if x4 > 0 then ((switchyardref06_in.f k (bt x0 x4) (⟨#[48, 49, 50, 51, 52, 53, 54, 55, 56, 57, 95]⟩ : ByteArray)).bind fun t132 => (switchyardref06_Name.l0 k x0 t132 (wrap64 (x4 + 1)))) else (switchyardref06_Name.l0 k x0 false (wrap64 (x4 + 1)))))) else (none)) else (none)) else (some x3)
end
def switchyardref06_Name.f (k : Nat) (a0 : ByteArray) : Option (Bool) := if (a0.size : Int) > 0 then (switchyardref06_Name.j0 k a0 (decide ((a0.size : Int) ≤ 24))) else (switchyardref06_Name.j0 k a0 false)
theorem switchyardref06_Name.mono_l : ∀ k, (∀ y0 y1, LeO (switchyardref06_Name.j0 k y0 y1) (switchyardref06_Name.j0 (k + 1) y0 y1)) ∧ (∀ y0 y1 y2, LeO (switchyardref06_Name.l0 k y0 y1 y2) (switchyardref06_Name.l0 (k + 1) y0 y1 y2)) ∧ (∀ y0 y1 y2 y3, LeO (switchyardref06_Name.j2 k y0 y1 y2 y3) (switchyardref06_Name.j2 (k + 1) y0 y1 y2 y3))
  | 0 => ⟨fun _ _ r h => by simp [switchyardref06_Name.j0] at h, fun _ _ _ r h => by simp [switchyardref06_Name.l0] at h, fun _ _ _ _ r h => by simp [switchyardref06_Name.j2] at h⟩
  | k + 1 => by
    obtain ⟨ih0, ih1, ih2⟩ := switchyardref06_Name.mono_l k
    refine ⟨?_, ?_, ?_⟩
    · intro y0 y1
      unfold switchyardref06_Name.j0
      repeat' first
      | (with_reducible exact ih0 _ _)
      | (with_reducible exact ih1 _ _ _)
      | (with_reducible exact ih2 _ _ _ _)
      | (with_reducible exact switchyardref06_in.mono _ _ _)
      | (with_reducible exact LeO.refl _)
      | (with_reducible exact LeO.none _)
      | (with_reducible refine LeO.ite ?_ ?_)
      | (with_reducible refine LeO.bind ?_ (fun _ => ?_))
      | exact ih0 _ _
      | exact ih1 _ _ _
      | exact ih2 _ _ _ _
      | exact switchyardref06_in.mono _ _ _
      | exact LeO.none _
      | refine LeO.ite ?_ ?_
      | refine LeO.bind ?_ (fun _ => ?_)
    · intro y0 y1 y2
      unfold switchyardref06_Name.l0
      repeat' first
      | (with_reducible exact ih0 _ _)
      | (with_reducible exact ih1 _ _ _)
      | (with_reducible exact ih2 _ _ _ _)
      | (with_reducible exact switchyardref06_in.mono _ _ _)
      | (with_reducible exact LeO.refl _)
      | (with_reducible exact LeO.none _)
      | (with_reducible refine LeO.ite ?_ ?_)
      | (with_reducible refine LeO.bind ?_ (fun _ => ?_))
      | exact ih0 _ _
      | exact ih1 _ _ _
      | exact ih2 _ _ _ _
      | exact switchyardref06_in.mono _ _ _
      | exact LeO.none _
      | refine LeO.ite ?_ ?_
      | refine LeO.bind ?_ (fun _ => ?_)
    · intro y0 y1 y2 y3
      unfold switchyardref06_Name.j2
      repeat' first
      | (with_reducible exact ih0 _ _)
      | (with_reducible exact ih1 _ _ _)
      | (with_reducible exact ih2 _ _ _ _)
      | (with_reducible exact switchyardref06_in.mono _ _ _)
      | (with_reducible exact LeO.refl _)
      | (with_reducible exact LeO.none _)
      | (with_reducible refine LeO.ite ?_ ?_)
      | (with_reducible refine LeO.bind ?_ (fun _ => ?_))
      | exact ih0 _ _
      | exact ih1 _ _ _
      | exact ih2 _ _ _ _
      | exact switchyardref06_in.mono _ _ _
      | exact LeO.none _
      | refine LeO.ite ?_ ?_
      | refine LeO.bind ?_ (fun _ => ?_)
theorem switchyardref06_Name.mono : ∀ a0 k, LeO (switchyardref06_Name.f k a0) (switchyardref06_Name.f (k + 1) a0) := by
  intro a0 k
  obtain ⟨ih0, ih1, ih2⟩ := switchyardref06_Name.mono_l k
  unfold switchyardref06_Name.f
  repeat' first
      | (with_reducible exact ih0 _ _)
      | (with_reducible exact ih1 _ _ _)
      | (with_reducible exact ih2 _ _ _ _)
      | (with_reducible exact switchyardref06_in.mono _ _ _)
      | (with_reducible exact LeO.refl _)
      | (with_reducible exact LeO.none _)
      | (with_reducible refine LeO.ite ?_ ?_)
      | (with_reducible refine LeO.bind ?_ (fun _ => ?_))
      | exact ih0 _ _
      | exact ih1 _ _ _
      | exact ih2 _ _ _ _
      | exact switchyardref06_in.mono _ _ _
      | exact LeO.none _
      | refine LeO.ite ?_ ?_
      | refine LeO.bind ?_ (fun _ => ?_)
set_option maxHeartbeats 2000000 in
set_option maxRecDepth 100000 in
theorem switchyardref06_Name.calls (k : Nat) (a0 : ByteArray) (r : Bool) (w : World) (h : switchyardref06_Name.f k a0 = some r) :
    Calls Tryd.prog 12 #[.string a0] w fun e w' => e = .returned (.bool r) ∧ Drawn0 w w' := by
  have H : (if (a0.size : Int) > 0 then (switchyardref06_Name.j0 k a0 (decide ((a0.size : Int) ≤ 24))) else (switchyardref06_Name.j0 k a0 false)) = some r := h
  clear h
  have HC2 := Aside0.mk H
  clear H
  go_enter Tryd.func12, Tryd.ntmps12
  go_upto_region 1 with (fail)
  go_cut [3] (fun v3 wc => ∃ (kq : Nat) (x3_1 : Bool), v3 = .bool x3_1 ∧ Aside0 (switchyardref06_Name.j0 kq a0 x3_1 = some r) ∧ Aside0 (kq ≤ k) ∧ Drawn0 w wc)
  case first =>
    have H := HC2.out
    clear HC2
    by_cases c3 : (a0.size : Int) > 0
    · rw [if_pos c3] at H
      have c3b0 : decide (0 < (a0.size : Int)) = true := decide_eq_true c3
      have c3b1 : decide (0 < a0.size) = true := decide_eq_true (by omega)
      clear c3
      (first | rw [c3b0] | (simp only [i64_w, i32_w]; rw [c3b0]) | skip)
      have H' := Aside0.mk H
      clear H
      go_wp2
      go_meet
      case rel => exact ⟨_, (decide ((a0.size : Int) ≤ 24)), (by first | rfl | (simp; done) | (simp [*]; done)), H', ⟨by first | omega | exact Nat.le_refl _⟩, by repeat (first | exact Drawn0.refl _ | apply Drawn0.step)⟩
    · rw [if_neg c3] at H
      have c3b0 : decide (0 < (a0.size : Int)) = false := decide_eq_false c3
      have c3b1 : decide (0 < a0.size) = false := decide_eq_false (by omega)
      clear c3
      (first | rw [c3b0] | (simp only [i64_w, i32_w]; rw [c3b0]) | skip)
      have H' := Aside0.mk H
      clear H
      go_wp2
      go_meet
      case rel => exact ⟨_, (false), (by first | rfl | (simp; done) | (simp [*]; done)), H', ⟨by first | omega | exact Nat.le_refl _⟩, by repeat (first | exact Drawn0.refl _ | apply Drawn0.step)⟩
  case rest =>
    clear HC2
    try clear c1
    try clear p2
    try clear c3
    try clear c3b0
    try clear c3b1
    obtain ⟨kq, x3_1, rfl, HA, HJ1, ⟨mc1, rfl⟩⟩ := hcut
    cases kq with
    | zero => exact absurd HA.out (by simp [switchyardref06_Name.j0])
    | succ kj1 =>
      have H := HA.out
      clear HA
      simp only [switchyardref06_Name.j0] at H
      have H' := Aside0.mk H
      clear H
      go_wp2
      go_loopg [3, 4] kj1 (fun kq v3 v4 w' => ∃ (x3_2 : Bool) (x4_2 : Int), v3 = .bool x3_2 ∧ v4 = .int .i64 x4_2 ∧ Aside0 (switchyardref06_Name.l0 kq a0 x3_2 x4_2 = some r) ∧ Aside0 (kq ≤ kj1) ∧ Drawn0 w w')
      case atStart => exact ⟨(x3_1), (0), (by first | rfl | (simp; done) | (simp [*]; done)), (by first | rfl | (simp; done) | (simp [*]; done)), H', ⟨Nat.le_refl _⟩, by repeat (first | exact Drawn0.refl _ | apply Drawn0.step)⟩
      case round =>
        clear H'
        try clear c1
        try clear p2
        try clear c3
        try clear c3b0
        try clear c3b1
        try clear p2
        obtain ⟨x3_2, x4_2, rfl, rfl, HA, HK2, ⟨m2, rfl⟩⟩ := hrel
        cases gk with
        | zero => exact absurd HA.out (by simp [switchyardref06_Name.l0])
        | succ k2 =>
          have H := HA.out
          clear HA
          simp only [switchyardref06_Name.l0] at H
          have HC4 := Aside0.mk H
          clear H
          go_upto_region 3 with (fail)
          go_cut [19] (fun v19 wc => ∃ (kq : Nat) (x19_3 : Bool), v19 = .bool x19_3 ∧ Aside0 (switchyardref06_Name.j2 kq a0 x3_2 x4_2 x19_3 = some r) ∧ Aside0 (kq ≤ k2) ∧ Drawn0 w wc)
          case first =>
            have H := HC4.out
            clear HC4
            by_cases c5 : x4_2 < (a0.size : Int)
            · rw [if_pos c5] at H
              have c5b0 : decide (x4_2 < (a0.size : Int)) = true := decide_eq_true c5
              clear c5
              (first | rw [c5b0] | (simp only [i64_w, i32_w]; rw [c5b0]) | skip)
              have H' := Aside0.mk H
              clear H
              go_wp2
              go_meet
              case rel => exact ⟨_, (x3_2), (by first | rfl | (simp; done) | (simp [*]; done)), H', ⟨by have := HJ1.out; have := HK2.out; first | omega | exact Nat.le_refl _⟩, by repeat (first | exact Drawn0.refl _ | apply Drawn0.step)⟩
            · rw [if_neg c5] at H
              have c5b0 : decide (x4_2 < (a0.size : Int)) = false := decide_eq_false c5
              clear c5
              (first | rw [c5b0] | (simp only [i64_w, i32_w]; rw [c5b0]) | skip)
              have H' := Aside0.mk H
              clear H
              go_wp2
              go_meet
              case rel => exact ⟨_, (false), (by first | rfl | (simp; done) | (simp [*]; done)), H', ⟨by have := HJ1.out; have := HK2.out; first | omega | exact Nat.le_refl _⟩, by repeat (first | exact Drawn0.refl _ | apply Drawn0.step)⟩
          case rest =>
            clear HC4
            try clear c1
            try clear p2
            try clear c3
            try clear c3b0
            try clear c3b1
            try clear c5
            try clear c5b0
            try clear p2
            obtain ⟨kq, x19_3, rfl, HA, HJ3, ⟨mc3, rfl⟩⟩ := hcut
            cases kq with
            | zero => exact absurd HA.out (by simp [switchyardref06_Name.j2])
            | succ kj3 =>
              have H := HA.out
              clear HA
              simp only [switchyardref06_Name.j2] at H
              by_cases c6 : x19_3 = true
              · subst c6
                have H1 : (if 0 ≤ x4_2 then (if x4_2 < (a0.size : Int) then ((switchyardref06_in.f kj3 (bt a0 x4_2) (⟨#[97, 98, 99, 100, 101, 102, 103, 104, 105, 106, 107, 108, 109, 110, 111, 112, 113, 114, 115, 116, 117, 118, 119, 120, 121, 122, 65, 66, 67, 68, 69, 70, 71, 72, 73, 74, 75, 76, 77, 78, 79, 80, 81, 82, 83, 84, 85, 86, 87, 88, 89, 90]⟩ : ByteArray)).bind fun t131 => (if t131 = true then (switchyardref06_Name.l0 kj3 a0 true (wrap64 (x4_2 + 1))) else (if x4_2 > 0 then ((switchyardref06_in.f kj3 (bt a0 x4_2) (⟨#[48, 49, 50, 51, 52, 53, 54, 55, 56, 57, 95]⟩ : ByteArray)).bind fun t132 => (switchyardref06_Name.l0 kj3 a0 t132 (wrap64 (x4_2 + 1)))) else (switchyardref06_Name.l0 kj3 a0 false (wrap64 (x4_2 + 1)))))) else (none)) else (none)) = some r := by rw [if_pos rfl] at H; exact H
                clear H
                have H := H1
                clear H1
                by_cases c7 : 0 ≤ x4_2
                · rw [if_pos c7] at H
                  have c7b0 : decide (0 ≤ x4_2) = true := decide_eq_true c7
                  clear c7
                  by_cases c8 : x4_2 < (a0.size : Int)
                  · rw [if_pos c8] at H
                    have c8b0 : decide (x4_2 < (a0.size : Int)) = true := decide_eq_true c8
                    clear c8
                    replace H := Option.bind_eq_some_iff.mp H
                    obtain ⟨t131, A100, H⟩ := H
                    replace H : (if t131 = true then (switchyardref06_Name.l0 kj3 a0 true (wrap64 (x4_2 + 1))) else (if x4_2 > 0 then ((switchyardref06_in.f kj3 (bt a0 x4_2) (⟨#[48, 49, 50, 51, 52, 53, 54, 55, 56, 57, 95]⟩ : ByteArray)).bind fun t132 => (switchyardref06_Name.l0 kj3 a0 t132 (wrap64 (x4_2 + 1)))) else (switchyardref06_Name.l0 kj3 a0 false (wrap64 (x4_2 + 1))))) = some r := H
                    have A10 := Aside0.mk A100
                    clear A100
                    by_cases c11 : t131 = true
                    · subst c11
                      have H1 : (switchyardref06_Name.l0 kj3 a0 true (wrap64 (x4_2 + 1))) = some r := by rw [if_pos rfl] at H; exact H
                      clear H
                      have H := H1
                      clear H1
                      have H' := Aside0.mk H
                      clear H
                      have p9 : 0 ≤ (x4_2 : Int) := of_decide_eq_true (by first | (with_reducible assumption) | assumption)
                      have q9 : x4_2 < (a0.size : Int) := of_decide_eq_true (by first | (with_reducible assumption) | assumption)
                      have hx9 := bt_at a0 x4_2
                      replace p9 := eq_true p9
                      replace q9 := eq_true q9
                      go_wp2_with (first | ((with_reducible refine gate_callee (f := 27) rfl ?_); refine goesL_ (some 25) rfl rfl Tryd.func27 (by kernel_rfl) rfl #[.int .u8 (bt a0 x4_2), .string (⟨#[97, 98, 99, 100, 101, 102, 103, 104, 105, 106, 107, 108, 109, 110, 111, 112, 113, 114, 115, 116, 117, 118, 119, 120, 121, 122, 65, 66, 67, 68, 69, 70, 71, 72, 73, 74, 75, 76, 77, 78, 79, 80, 81, 82, 83, 84, 85, 86, 87, 88, 89, 90]⟩ : ByteArray)] rfl (by (try simp only [List.map_toArray, List.map_cons, List.map_nil]); first | done | rfl | (simp only [List.length_drop, List.length_take]; rfl)) ?_; (with_reducible refine (switchyardref06_in.calls kj3 (bt a0 x4_2) (⟨#[97, 98, 99, 100, 101, 102, 103, 104, 105, 106, 107, 108, 109, 110, 111, 112, 113, 114, 115, 116, 117, 118, 119, 120, 121, 122, 65, 66, 67, 68, 69, 70, 71, 72, 73, 74, 75, 76, 77, 78, 79, 80, 81, 82, 83, 84, 85, 86, 87, 88, 89, 90]⟩ : ByteArray) true _ A10.out).mono ?_); rintro e w' ⟨rfl, ⟨nd, rfl⟩⟩; refine ⟨_, rfl, ?_⟩))
                      go_roundg kj3
                      case measure => have := HJ1.out; have := HK2.out; have := HJ3.out; omega
                      case rel => exact ⟨(true), (wrap64 (x4_2 + 1)), (by first | rfl | (simp; done) | (simp [*]; done)), (by first | rfl | (simp; done) | (simp [*]; done)), H', ⟨by have := HJ1.out; have := HK2.out; have := HJ3.out; omega⟩, by repeat (first | exact Drawn0.refl _ | apply Drawn0.step)⟩
                    · replace c11 := Bool.eq_false_iff.mpr c11
                      subst c11
                      have H1 : (if x4_2 > 0 then ((switchyardref06_in.f kj3 (bt a0 x4_2) (⟨#[48, 49, 50, 51, 52, 53, 54, 55, 56, 57, 95]⟩ : ByteArray)).bind fun t132 => (switchyardref06_Name.l0 kj3 a0 t132 (wrap64 (x4_2 + 1)))) else (switchyardref06_Name.l0 kj3 a0 false (wrap64 (x4_2 + 1)))) = some r := by rw [if_neg (show ¬ (false = true) by decide)] at H; exact H
                      clear H
                      have H := H1
                      clear H1
                      by_cases c12 : x4_2 > 0
                      · rw [if_pos c12] at H
                        have c12b0 : decide (0 < x4_2) = true := decide_eq_true c12
                        clear c12
                        replace H := Option.bind_eq_some_iff.mp H
                        obtain ⟨t132, A140, H⟩ := H
                        replace H : (switchyardref06_Name.l0 kj3 a0 t132 (wrap64 (x4_2 + 1))) = some r := H
                        have A14 := Aside0.mk A140
                        clear A140
                        have H' := Aside0.mk H
                        clear H
                        have p9 : 0 ≤ (x4_2 : Int) := of_decide_eq_true (by first | (with_reducible assumption) | assumption)
                        have q9 : x4_2 < (a0.size : Int) := of_decide_eq_true (by first | (with_reducible assumption) | assumption)
                        have hx9 := bt_at a0 x4_2
                        replace p9 := eq_true p9
                        replace q9 := eq_true q9
                        go_wp2_with (first | ((with_reducible refine gate_callee (f := 27) rfl ?_); refine goesL_ (some 25) rfl rfl Tryd.func27 (by kernel_rfl) rfl #[.int .u8 (bt a0 x4_2), .string (⟨#[97, 98, 99, 100, 101, 102, 103, 104, 105, 106, 107, 108, 109, 110, 111, 112, 113, 114, 115, 116, 117, 118, 119, 120, 121, 122, 65, 66, 67, 68, 69, 70, 71, 72, 73, 74, 75, 76, 77, 78, 79, 80, 81, 82, 83, 84, 85, 86, 87, 88, 89, 90]⟩ : ByteArray)] rfl (by (try simp only [List.map_toArray, List.map_cons, List.map_nil]); first | done | rfl | (simp only [List.length_drop, List.length_take]; rfl)) ?_; (with_reducible refine (switchyardref06_in.calls kj3 (bt a0 x4_2) (⟨#[97, 98, 99, 100, 101, 102, 103, 104, 105, 106, 107, 108, 109, 110, 111, 112, 113, 114, 115, 116, 117, 118, 119, 120, 121, 122, 65, 66, 67, 68, 69, 70, 71, 72, 73, 74, 75, 76, 77, 78, 79, 80, 81, 82, 83, 84, 85, 86, 87, 88, 89, 90]⟩ : ByteArray) false _ A10.out).mono ?_); rintro e w' ⟨rfl, ⟨nd, rfl⟩⟩; refine ⟨_, rfl, ?_⟩; have p13 : 0 ≤ (x4_2 : Int) := of_decide_eq_true (by first | (with_reducible assumption) | assumption); have q13 : x4_2 < (a0.size : Int) := of_decide_eq_true (by first | (with_reducible assumption) | assumption); have hx13 := bt_at a0 x4_2; replace p13 := eq_true p13; replace q13 := eq_true q13) | (go_at_call 27; refine calls_of_args (args' := #[.int .u8 (bt a0 x4_2), .string (⟨#[48, 49, 50, 51, 52, 53, 54, 55, 56, 57, 95]⟩ : ByteArray)]) (by first | rfl) ?_; (with_reducible refine (switchyardref06_in.calls kj3 (bt a0 x4_2) (⟨#[48, 49, 50, 51, 52, 53, 54, 55, 56, 57, 95]⟩ : ByteArray) t132 _ A14.out).mono ?_); rintro e w' ⟨rfl, ⟨nd, rfl⟩⟩))
                        go_roundg kj3
                        case measure => have := HJ1.out; have := HK2.out; have := HJ3.out; omega
                        case rel => exact ⟨(t132), (wrap64 (x4_2 + 1)), (by first | rfl | (simp; done) | (simp [*]; done)), (by first | rfl | (simp; done) | (simp [*]; done)), H', ⟨by have := HJ1.out; have := HK2.out; have := HJ3.out; omega⟩, by repeat (first | exact Drawn0.refl _ | apply Drawn0.step)⟩
                      · rw [if_neg c12] at H
                        have c12b0 : decide (0 < x4_2) = false := decide_eq_false c12
                        clear c12
                        have H' := Aside0.mk H
                        clear H
                        have p9 : 0 ≤ (x4_2 : Int) := of_decide_eq_true (by first | (with_reducible assumption) | assumption)
                        have q9 : x4_2 < (a0.size : Int) := of_decide_eq_true (by first | (with_reducible assumption) | assumption)
                        have hx9 := bt_at a0 x4_2
                        replace p9 := eq_true p9
                        replace q9 := eq_true q9
                        go_wp2_with (first | ((with_reducible refine gate_callee (f := 27) rfl ?_); refine goesL_ (some 25) rfl rfl Tryd.func27 (by kernel_rfl) rfl #[.int .u8 (bt a0 x4_2), .string (⟨#[97, 98, 99, 100, 101, 102, 103, 104, 105, 106, 107, 108, 109, 110, 111, 112, 113, 114, 115, 116, 117, 118, 119, 120, 121, 122, 65, 66, 67, 68, 69, 70, 71, 72, 73, 74, 75, 76, 77, 78, 79, 80, 81, 82, 83, 84, 85, 86, 87, 88, 89, 90]⟩ : ByteArray)] rfl (by (try simp only [List.map_toArray, List.map_cons, List.map_nil]); first | done | rfl | (simp only [List.length_drop, List.length_take]; rfl)) ?_; (with_reducible refine (switchyardref06_in.calls kj3 (bt a0 x4_2) (⟨#[97, 98, 99, 100, 101, 102, 103, 104, 105, 106, 107, 108, 109, 110, 111, 112, 113, 114, 115, 116, 117, 118, 119, 120, 121, 122, 65, 66, 67, 68, 69, 70, 71, 72, 73, 74, 75, 76, 77, 78, 79, 80, 81, 82, 83, 84, 85, 86, 87, 88, 89, 90]⟩ : ByteArray) false _ A10.out).mono ?_); rintro e w' ⟨rfl, ⟨nd, rfl⟩⟩; refine ⟨_, rfl, ?_⟩))
                        go_roundg kj3
                        case measure => have := HJ1.out; have := HK2.out; have := HJ3.out; omega
                        case rel => exact ⟨(false), (wrap64 (x4_2 + 1)), (by first | rfl | (simp; done) | (simp [*]; done)), (by first | rfl | (simp; done) | (simp [*]; done)), H', ⟨by have := HJ1.out; have := HK2.out; have := HJ3.out; omega⟩, by repeat (first | exact Drawn0.refl _ | apply Drawn0.step)⟩
                  · rw [if_neg c8] at H
                    exact absurd H (by simp)
                · rw [if_neg c7] at H
                  exact absurd H (by simp)
              · replace c6 := Bool.eq_false_iff.mpr c6
                subst c6
                have H1 : (some x3_2) = some r := by rw [if_neg (show ¬ (false = true) by decide)] at H; exact H
                clear H
                have H := H1
                clear H1
                obtain rfl := Option.some.inj H
                go_wp2
                go_ret
                exact ⟨by first | rfl | (simp; done) | (simp [*]; done), by repeat (first | exact Drawn0.refl _ | apply Drawn0.step)⟩

end Go.Proofs.YtdmmgeggljlceaaDoor.XV
