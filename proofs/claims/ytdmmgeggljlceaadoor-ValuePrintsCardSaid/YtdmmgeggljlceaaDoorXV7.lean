-- Printed by a program of this session's own (wip/xprint.py, which drives the kit's print); Lean checks it.
import Derived.Test.YtdmmgeggljlceaaDoorXV0
import Derived.Test.YtdmmgeggljlceaaDoorXV6
namespace Go.Proofs.YtdmmgeggljlceaaDoor.XV
open Go.RowKit Go.Proofs.YtdmmgeggljlceaaDoorW.PrintWords Go.Proofs.YtdmmgeggljlceaaDoorW.PrintLast Go.Proofs.YtdmmgeggljlceaaDoorW.PrintMore
attribute [local go_sem] max2_int min2_int max_two min_two max_three min_three max_four min_four   -- for this text's walks alone
set_option linter.unusedVariables false
set_option linter.unusedSimpArgs false

/-! ### switchyardref06_Right: function 14 -/
mutual
def switchyardref06_Right.j0 : Nat → Bool → Int → Int → ByteArray → List Int → Option (Bool)
  | 0, _, _, _, _, _ => none
  | k + 1, x10, x134000, x134001, x134002, x134003 => if x10 = true then (some false) else (if x134000 = 1 then (if x134000 = 2 then (if x134001 = 0 then (switchyardref06_Right.j1 k false x134000 x134001 x134002 x134003) else (switchyardref06_Right.j1 k (x134001 != 1) x134000 x134001 x134002 x134003)) else (switchyardref06_Right.j1 k false x134000 x134001 x134002 x134003)) else (if x134000 = 2 then (if x134001 = 0 then (switchyardref06_Right.j1 k false x134000 x134001 x134002 x134003) else (switchyardref06_Right.j1 k (x134001 != 1) x134000 x134001 x134002 x134003)) else (if x134001 = 0 then (switchyardref06_Right.j1 k false x134000 x134001 x134002 x134003) else (switchyardref06_Right.j1 k true x134000 x134001 x134002 x134003))))
def switchyardref06_Right.j1 : Nat → Bool → Int → Int → ByteArray → List Int → Option (Bool)
  | 0, _, _, _, _, _ => none
  | k + 1, x38, x134000, x134001, x134002, x134003 => if x38 = true then (some false) else (if x134000 = 3 then (if (x134002.size : Int) > 64 then (some false) else (if x134000 = 4 then ((switchyardref06_Name.f k x134002).bind fun t134 => (if t134 = true then (if x134000 = 5 then (some (decide ((x134003.length : Int) ≤ 16))) else (if (x134003.length : Int) = 0 then (some true) else (some false))) else (some false))) else (if x134000 = 5 then (some (decide ((x134003.length : Int) ≤ 16))) else (if (x134003.length : Int) = 0 then (some true) else (some false))))) else (if x134000 = 4 then ((switchyardref06_Name.f k x134002).bind fun t135 => (if t135 = true then (if x134000 = 5 then (some (decide ((x134003.length : Int) ≤ 16))) else (if (x134003.length : Int) = 0 then (some true) else (some false))) else (some false))) else (if (x134002.size : Int) > 0 then (some false) else (if x134000 = 5 then (some (decide ((x134003.length : Int) ≤ 16))) else (if (x134003.length : Int) = 0 then (some true) else (some false))))))
end
def switchyardref06_Right.f (k : Nat) (a0_0 : Int) (a0_1 : Int) (a0_2 : ByteArray) (l0_3 : List Int) : Option (Bool) := if a0_0 < 0 then (switchyardref06_Right.j0 k true a0_0 a0_1 a0_2 l0_3) else (switchyardref06_Right.j0 k (decide (a0_0 > 5)) a0_0 a0_1 a0_2 l0_3)
theorem switchyardref06_Right.mono_l : ∀ k, (∀ y0 y1 y2 y3 y4, LeO (switchyardref06_Right.j0 k y0 y1 y2 y3 y4) (switchyardref06_Right.j0 (k + 1) y0 y1 y2 y3 y4)) ∧ (∀ y0 y1 y2 y3 y4, LeO (switchyardref06_Right.j1 k y0 y1 y2 y3 y4) (switchyardref06_Right.j1 (k + 1) y0 y1 y2 y3 y4))
  | 0 => ⟨fun _ _ _ _ _ r h => by simp [switchyardref06_Right.j0] at h, fun _ _ _ _ _ r h => by simp [switchyardref06_Right.j1] at h⟩
  | k + 1 => by
    obtain ⟨ih0, ih1⟩ := switchyardref06_Right.mono_l k
    refine ⟨?_, ?_⟩
    · intro y0 y1 y2 y3 y4
      unfold switchyardref06_Right.j0
      repeat' first
      | (with_reducible exact ih0 _ _ _ _ _)
      | (with_reducible exact ih1 _ _ _ _ _)
      | (with_reducible exact switchyardref06_Name.mono _ _)
      | (with_reducible exact LeO.refl _)
      | (with_reducible exact LeO.none _)
      | (with_reducible refine LeO.ite ?_ ?_)
      | (with_reducible refine LeO.bind ?_ (fun _ => ?_))
      | exact ih0 _ _ _ _ _
      | exact ih1 _ _ _ _ _
      | exact switchyardref06_Name.mono _ _
      | exact LeO.none _
      | refine LeO.ite ?_ ?_
      | refine LeO.bind ?_ (fun _ => ?_)
    · intro y0 y1 y2 y3 y4
      unfold switchyardref06_Right.j1
      repeat' first
      | (with_reducible exact ih0 _ _ _ _ _)
      | (with_reducible exact ih1 _ _ _ _ _)
      | (with_reducible exact switchyardref06_Name.mono _ _)
      | (with_reducible exact LeO.refl _)
      | (with_reducible exact LeO.none _)
      | (with_reducible refine LeO.ite ?_ ?_)
      | (with_reducible refine LeO.bind ?_ (fun _ => ?_))
      | exact ih0 _ _ _ _ _
      | exact ih1 _ _ _ _ _
      | exact switchyardref06_Name.mono _ _
      | exact LeO.none _
      | refine LeO.ite ?_ ?_
      | refine LeO.bind ?_ (fun _ => ?_)
theorem switchyardref06_Right.mono : ∀ a0 a1 a2 a3 k, LeO (switchyardref06_Right.f k a0 a1 a2 a3) (switchyardref06_Right.f (k + 1) a0 a1 a2 a3) := by
  intro a0 a1 a2 a3 k
  obtain ⟨ih0, ih1⟩ := switchyardref06_Right.mono_l k
  unfold switchyardref06_Right.f
  repeat' first
      | (with_reducible exact ih0 _ _ _ _ _)
      | (with_reducible exact ih1 _ _ _ _ _)
      | (with_reducible exact switchyardref06_Name.mono _ _)
      | (with_reducible exact LeO.refl _)
      | (with_reducible exact LeO.none _)
      | (with_reducible refine LeO.ite ?_ ?_)
      | (with_reducible refine LeO.bind ?_ (fun _ => ?_))
      | exact ih0 _ _ _ _ _
      | exact ih1 _ _ _ _ _
      | exact switchyardref06_Name.mono _ _
      | exact LeO.none _
      | refine LeO.ite ?_ ?_
      | refine LeO.bind ?_ (fun _ => ?_)
set_option maxHeartbeats 2000000 in
set_option maxRecDepth 100000 in
theorem switchyardref06_Right.calls (k : Nat) (a0_0 : Int) (a0_1 : Int) (a0_2 : ByteArray) (A0_3 : Option Addr) (c0_3 : Nat) (l0_3 : List Int) (r : Bool) (w : World) (hr0_3 : Kd.C (Kd.int .i64) w A0_3 l0_3.length l0_3) (hc0_3 : l0_3.length ≤ c0_3) (h : switchyardref06_Right.f k a0_0 a0_1 a0_2 l0_3 = some r) :
    Calls Tryd.prog 14 #[.agg #[.int .i64 a0_0, .int .i64 a0_1, .string a0_2, .slice A0_3 l0_3.length c0_3]] w fun e w' => e = .returned (.bool r) ∧ Below w.heap.size w w' := by
  have hu24 := Tryd.underlying24
  have HR0_3 := Aside0.mk hr0_3
  have HC0_3 := Aside0.mk hc0_3
  clear hr0_3 hc0_3
  have HB := Aside0.mk (Below.refl w.heap.size w)
  have H : (if a0_0 < 0 then (switchyardref06_Right.j0 k true a0_0 a0_1 a0_2 l0_3) else (switchyardref06_Right.j0 k (decide (a0_0 > 5)) a0_0 a0_1 a0_2 l0_3)) = some r := h
  clear h
  have HC2 := Aside0.mk H
  clear H
  go_enter Tryd.func14, Tryd.ntmps14
  go_upto_region 1 with (first | ((with_reducible refine gate_dst (N := 1) rfl ?_); (try (refine gate_guard (by rfl) ?_; dsimp only)); refine box_event ?hg (N := 1) ?hd (cs := #[.int .i64 a0_0, .int .i64 a0_1, .string a0_2, .slice A0_3 l0_3.length c0_3]) (t := 24) ?hr ?_; (case hd => rfl); (case hg => rfl); (case hr => first | (go_simp; done) | (go_simp; rfl)); intro gb133 hg w3 hbox hb; have n0_ := Aside0.mk (below_step (by repeat (first | (with_reducible first | exact HB.out | apply below_alloc | apply pw_below_drewN | apply below_drew1) | exact HB.out)) hb); have n1_ := Aside0.mk (hbox); have n2_ := Aside0.mk ((by rw [hg]; exact (below_size (by repeat (first | (with_reducible first | exact HB.out | apply below_alloc | apply pw_below_drewN | apply below_drew1) | exact HB.out))) : w.heap.size ≤ gb133)); have n3_ := Aside0.mk ((by rw [hg]; exact (below_size (by repeat (first | (with_reducible first | exact HB.out | apply below_alloc | apply pw_below_drewN | apply below_drew1) | exact HB.out))) : w.heap.size ≤ gb133)); clear HB; have HB := n0_; have BK133 := n1_; have GW133 := n2_; have GE133 := n3_; clear n0_ n1_ n2_ n3_; clear hb hbox hg))
  (try simp only [Act.put, List.setIfInBounds_toArray, List.set_cons_zero, List.set_cons_succ])
  go_cut [10] (fun v10 wc => ∃ (kq : Nat) (x10_1 : Bool), v10 = .bool x10_1 ∧ Aside0 (switchyardref06_Right.j0 kq x10_1 a0_0 a0_1 a0_2 l0_3 = some r) ∧ Aside0 (kq ≤ k) ∧ Aside0 (wc.heap[gb133]? = some (.cells #[.int .i64 a0_0, .int .i64 a0_1, .string a0_2, (.slice A0_3 l0_3.length c0_3)] 24 (0, 0))) ∧ Aside0 (Below w.heap.size w wc))
  case first =>
    have H := HC2.out
    clear HC2
    by_cases c4 : a0_0 < 0
    · rw [if_pos c4] at H
      have c4b0 : decide (a0_0 < 0) = true := decide_eq_true c4
      clear c4
      (first | rw [c4b0] | (simp only [i64_w, i32_w]; rw [c4b0]) | skip)
      have H' := Aside0.mk H
      clear H
      have hcz5_0 : w3.cell? ⟨gb133, 0, none⟩ = some (.int .i64 a0_0) := (blk_cell BK133.out 0).trans rfl
      have hcz5_1 : w3.cell? ⟨gb133, 1, none⟩ = some (.int .i64 a0_1) := (blk_cell BK133.out 1).trans rfl
      have hcz5_2 : w3.cell? ⟨gb133, 2, none⟩ = some (.string a0_2) := (blk_cell BK133.out 2).trans rfl
      have hcz5_3 : w3.cell? ⟨gb133, 3, none⟩ = some (.slice A0_3 l0_3.length c0_3) := (blk_cell BK133.out 3).trans rfl
      have hfz5_0 := blk_frozen BK133.out 0
      have hfz5_1 := blk_frozen BK133.out 1
      have hfz5_2 := blk_frozen BK133.out 2
      have hfz5_3 := blk_frozen BK133.out 3
      go_wp2
      go_meet
      case rel => exact ⟨_, (true), (by first | rfl | (simp; done) | (simp [*]; done)), H', ⟨by first | omega | exact Nat.le_refl _⟩, ⟨by (with_reducible repeat (first | refine blk_drewN ?_ _ | refine blk_drew ?_ | refine blk_alloc ?_ _)); exact BK133.out⟩, ⟨by repeat (first | (with_reducible first | exact HB.out | apply below_alloc | apply pw_below_drewN | apply below_drew1 | refine below_set ?_ GE133.out) | exact HB.out)⟩⟩
    · rw [if_neg c4] at H
      have c4b0 : decide (a0_0 < 0) = false := decide_eq_false c4
      clear c4
      (first | rw [c4b0] | (simp only [i64_w, i32_w]; rw [c4b0]) | skip)
      have H' := Aside0.mk H
      clear H
      have hcz6_0 : w3.cell? ⟨gb133, 0, none⟩ = some (.int .i64 a0_0) := (blk_cell BK133.out 0).trans rfl
      have hcz6_1 : w3.cell? ⟨gb133, 1, none⟩ = some (.int .i64 a0_1) := (blk_cell BK133.out 1).trans rfl
      have hcz6_2 : w3.cell? ⟨gb133, 2, none⟩ = some (.string a0_2) := (blk_cell BK133.out 2).trans rfl
      have hcz6_3 : w3.cell? ⟨gb133, 3, none⟩ = some (.slice A0_3 l0_3.length c0_3) := (blk_cell BK133.out 3).trans rfl
      have hfz6_0 := blk_frozen BK133.out 0
      have hfz6_1 := blk_frozen BK133.out 1
      have hfz6_2 := blk_frozen BK133.out 2
      have hfz6_3 := blk_frozen BK133.out 3
      go_wp2
      go_meet
      case rel => exact ⟨_, (decide (a0_0 > 5)), (by first | rfl | (simp; done) | (simp [*]; done)), H', ⟨by first | omega | exact Nat.le_refl _⟩, ⟨by (with_reducible repeat (first | refine blk_drewN ?_ _ | refine blk_drew ?_ | refine blk_alloc ?_ _)); exact BK133.out⟩, ⟨by repeat (first | (with_reducible first | exact HB.out | apply below_alloc | apply pw_below_drewN | apply below_drew1 | refine below_set ?_ GE133.out) | exact HB.out)⟩⟩
  case rest =>
    clear HC2
    try clear c1
    try clear p2
    try clear c4
    try clear c4b0
    try clear hcz5_0
    try clear hcz5_1
    try clear hcz5_2
    try clear hcz5_3
    try clear hcz6_0
    try clear hcz6_1
    try clear hcz6_2
    try clear hcz6_3
    try clear hfz5_0
    try clear hfz5_1
    try clear hfz5_2
    try clear hfz5_3
    try clear hfz6_0
    try clear hfz6_1
    try clear hfz6_2
    try clear hfz6_3
    obtain ⟨kq, x10_1, rfl, HA, HJ1, BK133, HB⟩ := hcut
    cases kq with
    | zero => exact absurd HA.out (by simp [switchyardref06_Right.j0])
    | succ kj1 =>
      have H := HA.out
      clear HA
      simp only [switchyardref06_Right.j0] at H
      by_cases c7 : x10_1 = true
      · subst c7
        have H1 : (some false) = some r := by rw [if_pos rfl] at H; exact H
        clear H
        have H := H1
        clear H1
        obtain rfl := Option.some.inj H
        go_wp2
        go_ret
        exact ⟨by first | rfl | (simp [errW_none, errW_some] <;> rfl) | (simp [*, errW_none, errW_some] <;> rfl), by repeat (first | (with_reducible first | exact HB.out | apply below_alloc | apply pw_below_drewN | apply below_drew1 | refine below_set ?_ GE133.out) | exact HB.out)⟩
      · replace c7 := Bool.eq_false_iff.mpr c7
        subst c7
        have H1 : (if a0_0 = 1 then (if a0_0 = 2 then (if a0_1 = 0 then (switchyardref06_Right.j1 kj1 false a0_0 a0_1 a0_2 l0_3) else (switchyardref06_Right.j1 kj1 (a0_1 != 1) a0_0 a0_1 a0_2 l0_3)) else (switchyardref06_Right.j1 kj1 false a0_0 a0_1 a0_2 l0_3)) else (if a0_0 = 2 then (if a0_1 = 0 then (switchyardref06_Right.j1 kj1 false a0_0 a0_1 a0_2 l0_3) else (switchyardref06_Right.j1 kj1 (a0_1 != 1) a0_0 a0_1 a0_2 l0_3)) else (if a0_1 = 0 then (switchyardref06_Right.j1 kj1 false a0_0 a0_1 a0_2 l0_3) else (switchyardref06_Right.j1 kj1 true a0_0 a0_1 a0_2 l0_3)))) = some r := by rw [if_neg (show ¬ (false = true) by decide)] at H; exact H
        clear H
        have H := H1
        clear H1
        have HC8 := Aside0.mk H
        clear H
        go_upto_region 3 with (fail)
        go_cut [38] (fun v38 wc => ∃ (kq : Nat) (x38_7 : Bool), v38 = .bool x38_7 ∧ Aside0 (switchyardref06_Right.j1 kq x38_7 a0_0 a0_1 a0_2 l0_3 = some r) ∧ Aside0 (kq ≤ kj1) ∧ Aside0 (wc.heap[gb133]? = some (.cells #[.int .i64 a0_0, .int .i64 a0_1, .string a0_2, (.slice A0_3 l0_3.length c0_3)] 24 (0, 0))) ∧ Aside0 (Below w.heap.size w wc))
        case first =>
          have H := HC8.out
          clear HC8
          by_cases c9 : a0_0 = 1
          · rw [if_pos c9] at H
            have c9b0 : (a0_0 == 1) = true := beq_iff_eq.mpr c9
            have c9b1 : (a0_0 != 1) = false := bne_eq_false_iff_eq.mpr c9
            clear c9
            (first | rw [c9b0] | (simp only [i64_w, i32_w]; rw [c9b0]) | skip)
            by_cases c10 : a0_0 = 2
            · rw [if_pos c10] at H
              have c10b0 : (a0_0 == 2) = true := beq_iff_eq.mpr c10
              have c10b1 : (a0_0 != 2) = false := bne_eq_false_iff_eq.mpr c10
              clear c10
              by_cases c11 : a0_1 = 0
              · rw [if_pos c11] at H
                have c11b0 : (a0_1 == 0) = true := beq_iff_eq.mpr c11
                have c11b1 : (a0_1 != 0) = false := bne_eq_false_iff_eq.mpr c11
                clear c11
                have H' := Aside0.mk H
                clear H
                have hcz12_0 : wc.cell? ⟨gb133, 0, none⟩ = some (.int .i64 a0_0) := (blk_cell BK133.out 0).trans rfl
                have hcz12_1 : wc.cell? ⟨gb133, 1, none⟩ = some (.int .i64 a0_1) := (blk_cell BK133.out 1).trans rfl
                have hcz12_2 : wc.cell? ⟨gb133, 2, none⟩ = some (.string a0_2) := (blk_cell BK133.out 2).trans rfl
                have hcz12_3 : wc.cell? ⟨gb133, 3, none⟩ = some (.slice A0_3 l0_3.length c0_3) := (blk_cell BK133.out 3).trans rfl
                have hfz12_0 := blk_frozen BK133.out 0
                have hfz12_1 := blk_frozen BK133.out 1
                have hfz12_2 := blk_frozen BK133.out 2
                have hfz12_3 := blk_frozen BK133.out 3
                go_wp2
                go_meet
                case rel => exact ⟨_, (false), (by first | rfl | (simp; done) | (simp [*]; done)), H', ⟨by have := HJ1.out; first | omega | exact Nat.le_refl _⟩, ⟨by (with_reducible repeat (first | refine blk_drewN ?_ _ | refine blk_drew ?_ | refine blk_alloc ?_ _)); exact BK133.out⟩, ⟨by repeat (first | (with_reducible first | exact HB.out | apply below_alloc | apply pw_below_drewN | apply below_drew1 | refine below_set ?_ GE133.out) | exact HB.out)⟩⟩
              · rw [if_neg c11] at H
                have c11b0 : (a0_1 == 0) = false := beq_eq_false_iff_ne.mpr c11
                have c11b1 : (a0_1 != 0) = true := bne_iff_ne.mpr c11
                have H' := Aside0.mk H
                clear H
                have hcz13_0 : wc.cell? ⟨gb133, 0, none⟩ = some (.int .i64 a0_0) := (blk_cell BK133.out 0).trans rfl
                have hcz13_1 : wc.cell? ⟨gb133, 1, none⟩ = some (.int .i64 a0_1) := (blk_cell BK133.out 1).trans rfl
                have hcz13_2 : wc.cell? ⟨gb133, 2, none⟩ = some (.string a0_2) := (blk_cell BK133.out 2).trans rfl
                have hcz13_3 : wc.cell? ⟨gb133, 3, none⟩ = some (.slice A0_3 l0_3.length c0_3) := (blk_cell BK133.out 3).trans rfl
                have hfz13_0 := blk_frozen BK133.out 0
                have hfz13_1 := blk_frozen BK133.out 1
                have hfz13_2 := blk_frozen BK133.out 2
                have hfz13_3 := blk_frozen BK133.out 3
                go_wp2
                go_meet
                case rel => exact ⟨_, ((a0_1 != 1)), (by first | rfl | (simp; done) | (simp [*]; done)), H', ⟨by have := HJ1.out; first | omega | exact Nat.le_refl _⟩, ⟨by (with_reducible repeat (first | refine blk_drewN ?_ _ | refine blk_drew ?_ | refine blk_alloc ?_ _)); exact BK133.out⟩, ⟨by repeat (first | (with_reducible first | exact HB.out | apply below_alloc | apply pw_below_drewN | apply below_drew1 | refine below_set ?_ GE133.out) | exact HB.out)⟩⟩
            · rw [if_neg c10] at H
              have c10b0 : (a0_0 == 2) = false := beq_eq_false_iff_ne.mpr c10
              have c10b1 : (a0_0 != 2) = true := bne_iff_ne.mpr c10
              have H' := Aside0.mk H
              clear H
              have hcz14_0 : wc.cell? ⟨gb133, 0, none⟩ = some (.int .i64 a0_0) := (blk_cell BK133.out 0).trans rfl
              have hcz14_1 : wc.cell? ⟨gb133, 1, none⟩ = some (.int .i64 a0_1) := (blk_cell BK133.out 1).trans rfl
              have hcz14_2 : wc.cell? ⟨gb133, 2, none⟩ = some (.string a0_2) := (blk_cell BK133.out 2).trans rfl
              have hcz14_3 : wc.cell? ⟨gb133, 3, none⟩ = some (.slice A0_3 l0_3.length c0_3) := (blk_cell BK133.out 3).trans rfl
              have hfz14_0 := blk_frozen BK133.out 0
              have hfz14_1 := blk_frozen BK133.out 1
              have hfz14_2 := blk_frozen BK133.out 2
              have hfz14_3 := blk_frozen BK133.out 3
              go_wp2
              go_meet
              case rel => exact ⟨_, (false), (by first | rfl | (simp; done) | (simp [*]; done)), H', ⟨by have := HJ1.out; first | omega | exact Nat.le_refl _⟩, ⟨by (with_reducible repeat (first | refine blk_drewN ?_ _ | refine blk_drew ?_ | refine blk_alloc ?_ _)); exact BK133.out⟩, ⟨by repeat (first | (with_reducible first | exact HB.out | apply below_alloc | apply pw_below_drewN | apply below_drew1 | refine below_set ?_ GE133.out) | exact HB.out)⟩⟩
          · rw [if_neg c9] at H
            have c9b0 : (a0_0 == 1) = false := beq_eq_false_iff_ne.mpr c9
            have c9b1 : (a0_0 != 1) = true := bne_iff_ne.mpr c9
            (first | rw [c9b0] | (simp only [i64_w, i32_w]; rw [c9b0]) | skip)
            by_cases c15 : a0_0 = 2
            · rw [if_pos c15] at H
              have c15b0 : (a0_0 == 2) = true := beq_iff_eq.mpr c15
              have c15b1 : (a0_0 != 2) = false := bne_eq_false_iff_eq.mpr c15
              clear c15
              by_cases c16 : a0_1 = 0
              · rw [if_pos c16] at H
                have c16b0 : (a0_1 == 0) = true := beq_iff_eq.mpr c16
                have c16b1 : (a0_1 != 0) = false := bne_eq_false_iff_eq.mpr c16
                clear c16
                have H' := Aside0.mk H
                clear H
                have hcz17_0 : wc.cell? ⟨gb133, 0, none⟩ = some (.int .i64 a0_0) := (blk_cell BK133.out 0).trans rfl
                have hcz17_1 : wc.cell? ⟨gb133, 1, none⟩ = some (.int .i64 a0_1) := (blk_cell BK133.out 1).trans rfl
                have hcz17_2 : wc.cell? ⟨gb133, 2, none⟩ = some (.string a0_2) := (blk_cell BK133.out 2).trans rfl
                have hcz17_3 : wc.cell? ⟨gb133, 3, none⟩ = some (.slice A0_3 l0_3.length c0_3) := (blk_cell BK133.out 3).trans rfl
                have hfz17_0 := blk_frozen BK133.out 0
                have hfz17_1 := blk_frozen BK133.out 1
                have hfz17_2 := blk_frozen BK133.out 2
                have hfz17_3 := blk_frozen BK133.out 3
                go_wp2
                go_meet
                case rel => exact ⟨_, (false), (by first | rfl | (simp; done) | (simp [*]; done)), H', ⟨by have := HJ1.out; first | omega | exact Nat.le_refl _⟩, ⟨by (with_reducible repeat (first | refine blk_drewN ?_ _ | refine blk_drew ?_ | refine blk_alloc ?_ _)); exact BK133.out⟩, ⟨by repeat (first | (with_reducible first | exact HB.out | apply below_alloc | apply pw_below_drewN | apply below_drew1 | refine below_set ?_ GE133.out) | exact HB.out)⟩⟩
              · rw [if_neg c16] at H
                have c16b0 : (a0_1 == 0) = false := beq_eq_false_iff_ne.mpr c16
                have c16b1 : (a0_1 != 0) = true := bne_iff_ne.mpr c16
                have H' := Aside0.mk H
                clear H
                have hcz18_0 : wc.cell? ⟨gb133, 0, none⟩ = some (.int .i64 a0_0) := (blk_cell BK133.out 0).trans rfl
                have hcz18_1 : wc.cell? ⟨gb133, 1, none⟩ = some (.int .i64 a0_1) := (blk_cell BK133.out 1).trans rfl
                have hcz18_2 : wc.cell? ⟨gb133, 2, none⟩ = some (.string a0_2) := (blk_cell BK133.out 2).trans rfl
                have hcz18_3 : wc.cell? ⟨gb133, 3, none⟩ = some (.slice A0_3 l0_3.length c0_3) := (blk_cell BK133.out 3).trans rfl
                have hfz18_0 := blk_frozen BK133.out 0
                have hfz18_1 := blk_frozen BK133.out 1
                have hfz18_2 := blk_frozen BK133.out 2
                have hfz18_3 := blk_frozen BK133.out 3
                go_wp2
                go_meet
                case rel => exact ⟨_, ((a0_1 != 1)), (by first | rfl | (simp; done) | (simp [*]; done)), H', ⟨by have := HJ1.out; first | omega | exact Nat.le_refl _⟩, ⟨by (with_reducible repeat (first | refine blk_drewN ?_ _ | refine blk_drew ?_ | refine blk_alloc ?_ _)); exact BK133.out⟩, ⟨by repeat (first | (with_reducible first | exact HB.out | apply below_alloc | apply pw_below_drewN | apply below_drew1 | refine below_set ?_ GE133.out) | exact HB.out)⟩⟩
            · rw [if_neg c15] at H
              have c15b0 : (a0_0 == 2) = false := beq_eq_false_iff_ne.mpr c15
              have c15b1 : (a0_0 != 2) = true := bne_iff_ne.mpr c15
              by_cases c19 : a0_1 = 0
              · rw [if_pos c19] at H
                have c19b0 : (a0_1 == 0) = true := beq_iff_eq.mpr c19
                have c19b1 : (a0_1 != 0) = false := bne_eq_false_iff_eq.mpr c19
                clear c19
                have H' := Aside0.mk H
                clear H
                have hcz20_0 : wc.cell? ⟨gb133, 0, none⟩ = some (.int .i64 a0_0) := (blk_cell BK133.out 0).trans rfl
                have hcz20_1 : wc.cell? ⟨gb133, 1, none⟩ = some (.int .i64 a0_1) := (blk_cell BK133.out 1).trans rfl
                have hcz20_2 : wc.cell? ⟨gb133, 2, none⟩ = some (.string a0_2) := (blk_cell BK133.out 2).trans rfl
                have hcz20_3 : wc.cell? ⟨gb133, 3, none⟩ = some (.slice A0_3 l0_3.length c0_3) := (blk_cell BK133.out 3).trans rfl
                have hfz20_0 := blk_frozen BK133.out 0
                have hfz20_1 := blk_frozen BK133.out 1
                have hfz20_2 := blk_frozen BK133.out 2
                have hfz20_3 := blk_frozen BK133.out 3
                go_wp2
                go_meet
                case rel => exact ⟨_, (false), (by first | rfl | (simp; done) | (simp [*]; done)), H', ⟨by have := HJ1.out; first | omega | exact Nat.le_refl _⟩, ⟨by (with_reducible repeat (first | refine blk_drewN ?_ _ | refine blk_drew ?_ | refine blk_alloc ?_ _)); exact BK133.out⟩, ⟨by repeat (first | (with_reducible first | exact HB.out | apply below_alloc | apply pw_below_drewN | apply below_drew1 | refine below_set ?_ GE133.out) | exact HB.out)⟩⟩
              · rw [if_neg c19] at H
                have c19b0 : (a0_1 == 0) = false := beq_eq_false_iff_ne.mpr c19
                have c19b1 : (a0_1 != 0) = true := bne_iff_ne.mpr c19
                have H' := Aside0.mk H
                clear H
                have hcz21_0 : wc.cell? ⟨gb133, 0, none⟩ = some (.int .i64 a0_0) := (blk_cell BK133.out 0).trans rfl
                have hcz21_1 : wc.cell? ⟨gb133, 1, none⟩ = some (.int .i64 a0_1) := (blk_cell BK133.out 1).trans rfl
                have hcz21_2 : wc.cell? ⟨gb133, 2, none⟩ = some (.string a0_2) := (blk_cell BK133.out 2).trans rfl
                have hcz21_3 : wc.cell? ⟨gb133, 3, none⟩ = some (.slice A0_3 l0_3.length c0_3) := (blk_cell BK133.out 3).trans rfl
                have hfz21_0 := blk_frozen BK133.out 0
                have hfz21_1 := blk_frozen BK133.out 1
                have hfz21_2 := blk_frozen BK133.out 2
                have hfz21_3 := blk_frozen BK133.out 3
                go_wp2
                go_meet
                case rel => exact ⟨_, (true), (by first | rfl | (simp; done) | (simp [*]; done)), H', ⟨by have := HJ1.out; first | omega | exact Nat.le_refl _⟩, ⟨by (with_reducible repeat (first | refine blk_drewN ?_ _ | refine blk_drew ?_ | refine blk_alloc ?_ _)); exact BK133.out⟩, ⟨by repeat (first | (with_reducible first | exact HB.out | apply below_alloc | apply pw_below_drewN | apply below_drew1 | refine below_set ?_ GE133.out) | exact HB.out)⟩⟩
        case rest =>
          clear HC8
          try clear c1
          try clear p2
          try clear c4
          try clear c4b0
          try clear c7
          try clear c9
          try clear c9b0
          try clear c9b1
          try clear c10
          try clear c10b0
          try clear c10b1
          try clear c11
          try clear c11b0
          try clear c11b1
          try clear c14
          try clear c15
          try clear c15b0
          try clear c15b1
          try clear c16
          try clear c16b0
          try clear c16b1
          try clear c19
          try clear c19b0
          try clear c19b1
          try clear hcz12_0
          try clear hcz12_1
          try clear hcz12_2
          try clear hcz12_3
          try clear hcz13_0
          try clear hcz13_1
          try clear hcz13_2
          try clear hcz13_3
          try clear hcz14_0
          try clear hcz14_1
          try clear hcz14_2
          try clear hcz14_3
          try clear hcz17_0
          try clear hcz17_1
          try clear hcz17_2
          try clear hcz17_3
          try clear hcz18_0
          try clear hcz18_1
          try clear hcz18_2
          try clear hcz18_3
          try clear hcz20_0
          try clear hcz20_1
          try clear hcz20_2
          try clear hcz20_3
          try clear hcz21_0
          try clear hcz21_1
          try clear hcz21_2
          try clear hcz21_3
          try clear hcz5_0
          try clear hcz5_1
          try clear hcz5_2
          try clear hcz5_3
          try clear hcz6_0
          try clear hcz6_1
          try clear hcz6_2
          try clear hcz6_3
          try clear hfz12_0
          try clear hfz12_1
          try clear hfz12_2
          try clear hfz12_3
          try clear hfz13_0
          try clear hfz13_1
          try clear hfz13_2
          try clear hfz13_3
          try clear hfz14_0
          try clear hfz14_1
          try clear hfz14_2
          try clear hfz14_3
          try clear hfz17_0
          try clear hfz17_1
          try clear hfz17_2
          try clear hfz17_3
          try clear hfz18_0
          try clear hfz18_1
          try clear hfz18_2
          try clear hfz18_3
          try clear hfz20_0
          try clear hfz20_1
          try clear hfz20_2
          try clear hfz20_3
          try clear hfz21_0
          try clear hfz21_1
          try clear hfz21_2
          try clear hfz21_3
          try clear hfz5_0
          try clear hfz5_1
          try clear hfz5_2
          try clear hfz5_3
          try clear hfz6_0
          try clear hfz6_1
          try clear hfz6_2
          try clear hfz6_3
          try clear p2
          obtain ⟨kq, x38_7, rfl, HA, HJ7, BK133, HB⟩ := hcut
          cases kq with
          | zero => exact absurd HA.out (by simp [switchyardref06_Right.j1])
          | succ kj7 =>
            have H := HA.out
            clear HA
            simp only [switchyardref06_Right.j1] at H
            by_cases c22 : x38_7 = true
            · subst c22
              have H1 : (some false) = some r := by rw [if_pos rfl] at H; exact H
              clear H
              have H := H1
              clear H1
              obtain rfl := Option.some.inj H
              go_wp2
              go_ret
              exact ⟨by first | rfl | (simp [errW_none, errW_some] <;> rfl) | (simp [*, errW_none, errW_some] <;> rfl), by repeat (first | (with_reducible first | exact HB.out | apply below_alloc | apply pw_below_drewN | apply below_drew1 | refine below_set ?_ GE133.out) | exact HB.out)⟩
            · replace c22 := Bool.eq_false_iff.mpr c22
              subst c22
              have H1 : (if a0_0 = 3 then (if (a0_2.size : Int) > 64 then (some false) else (if a0_0 = 4 then ((switchyardref06_Name.f kj7 a0_2).bind fun t134 => (if t134 = true then (if a0_0 = 5 then (some (decide ((l0_3.length : Int) ≤ 16))) else (if (l0_3.length : Int) = 0 then (some true) else (some false))) else (some false))) else (if a0_0 = 5 then (some (decide ((l0_3.length : Int) ≤ 16))) else (if (l0_3.length : Int) = 0 then (some true) else (some false))))) else (if a0_0 = 4 then ((switchyardref06_Name.f kj7 a0_2).bind fun t135 => (if t135 = true then (if a0_0 = 5 then (some (decide ((l0_3.length : Int) ≤ 16))) else (if (l0_3.length : Int) = 0 then (some true) else (some false))) else (some false))) else (if (a0_2.size : Int) > 0 then (some false) else (if a0_0 = 5 then (some (decide ((l0_3.length : Int) ≤ 16))) else (if (l0_3.length : Int) = 0 then (some true) else (some false)))))) = some r := by rw [if_neg (show ¬ (false = true) by decide)] at H; exact H
              clear H
              have H := H1
              clear H1
              by_cases c23 : a0_0 = 3
              · rw [if_pos c23] at H
                have c23b0 : (a0_0 == 3) = true := beq_iff_eq.mpr c23
                have c23b1 : (a0_0 != 3) = false := bne_eq_false_iff_eq.mpr c23
                clear c23
                by_cases c24 : (a0_2.size : Int) > 64
                · rw [if_pos c24] at H
                  have c24b0 : decide (64 < (a0_2.size : Int)) = true := decide_eq_true c24
                  have c24b1 : decide (64 < a0_2.size) = true := decide_eq_true (by omega)
                  clear c24
                  obtain rfl := Option.some.inj H
                  have hcz25_0 : wc.cell? ⟨gb133, 0, none⟩ = some (.int .i64 a0_0) := (blk_cell BK133.out 0).trans rfl
                  have hcz25_1 : wc.cell? ⟨gb133, 1, none⟩ = some (.int .i64 a0_1) := (blk_cell BK133.out 1).trans rfl
                  have hcz25_2 : wc.cell? ⟨gb133, 2, none⟩ = some (.string a0_2) := (blk_cell BK133.out 2).trans rfl
                  have hcz25_3 : wc.cell? ⟨gb133, 3, none⟩ = some (.slice A0_3 l0_3.length c0_3) := (blk_cell BK133.out 3).trans rfl
                  have hfz25_0 := blk_frozen BK133.out 0
                  have hfz25_1 := blk_frozen BK133.out 1
                  have hfz25_2 := blk_frozen BK133.out 2
                  have hfz25_3 := blk_frozen BK133.out 3
                  go_wp2
                  go_ret
                  exact ⟨by first | rfl | (simp [errW_none, errW_some] <;> rfl) | (simp [*, errW_none, errW_some] <;> rfl), by repeat (first | (with_reducible first | exact HB.out | apply below_alloc | apply pw_below_drewN | apply below_drew1 | refine below_set ?_ GE133.out) | exact HB.out)⟩
                · rw [if_neg c24] at H
                  have c24b0 : decide (64 < (a0_2.size : Int)) = false := decide_eq_false c24
                  have c24b1 : decide (64 < a0_2.size) = false := decide_eq_false (by omega)
                  clear c24
                  by_cases c26 : a0_0 = 4
                  · rw [if_pos c26] at H
                    have c26b0 : (a0_0 == 4) = true := beq_iff_eq.mpr c26
                    have c26b1 : (a0_0 != 4) = false := bne_eq_false_iff_eq.mpr c26
                    clear c26
                    replace H := Option.bind_eq_some_iff.mp H
                    obtain ⟨t134, A270, H⟩ := H
                    replace H : (if t134 = true then (if a0_0 = 5 then (some (decide ((l0_3.length : Int) ≤ 16))) else (if (l0_3.length : Int) = 0 then (some true) else (some false))) else (some false)) = some r := H
                    have A27 := Aside0.mk A270
                    clear A270
                    by_cases c28 : t134 = true
                    · subst c28
                      have H1 : (if a0_0 = 5 then (some (decide ((l0_3.length : Int) ≤ 16))) else (if (l0_3.length : Int) = 0 then (some true) else (some false))) = some r := by rw [if_pos rfl] at H; exact H
                      clear H
                      have H := H1
                      clear H1
                      by_cases c29 : a0_0 = 5
                      · rw [if_pos c29] at H
                        have c29b0 : (a0_0 == 5) = true := beq_iff_eq.mpr c29
                        have c29b1 : (a0_0 != 5) = false := bne_eq_false_iff_eq.mpr c29
                        clear c29
                        obtain rfl := Option.some.inj H
                        have hcz30_0 : wc.cell? ⟨gb133, 0, none⟩ = some (.int .i64 a0_0) := (blk_cell BK133.out 0).trans rfl
                        have hcz30_1 : wc.cell? ⟨gb133, 1, none⟩ = some (.int .i64 a0_1) := (blk_cell BK133.out 1).trans rfl
                        have hcz30_2 : wc.cell? ⟨gb133, 2, none⟩ = some (.string a0_2) := (blk_cell BK133.out 2).trans rfl
                        have hcz30_3 : wc.cell? ⟨gb133, 3, none⟩ = some (.slice A0_3 l0_3.length c0_3) := (blk_cell BK133.out 3).trans rfl
                        have hfz30_0 := blk_frozen BK133.out 0
                        have hfz30_1 := blk_frozen BK133.out 1
                        have hfz30_2 := blk_frozen BK133.out 2
                        have hfz30_3 := blk_frozen BK133.out 3
                        go_wp2_with (first | (go_at_call 12; refine calls_of_args (args' := #[.string a0_2]) (by first | rfl) ?_; (with_reducible refine (switchyardref06_Name.calls kj7 a0_2 true _ A27.out).mono ?_); rintro e w' ⟨rfl, ⟨nd, rfl⟩⟩))
                        go_ret
                        exact ⟨by first | rfl | (simp [errW_none, errW_some] <;> rfl) | (simp [*, errW_none, errW_some] <;> rfl), by repeat (first | (with_reducible first | exact HB.out | apply below_alloc | apply pw_below_drewN | apply below_drew1 | refine below_set ?_ GE133.out) | exact HB.out)⟩
                      · rw [if_neg c29] at H
                        have c29b0 : (a0_0 == 5) = false := beq_eq_false_iff_ne.mpr c29
                        have c29b1 : (a0_0 != 5) = true := bne_iff_ne.mpr c29
                        by_cases c31 : (l0_3.length : Int) = 0
                        · rw [if_pos c31] at H
                          have c31b0 : ((l0_3.length : Int) == 0) = true := beq_iff_eq.mpr c31
                          have c31b1 : ((l0_3.length : Int) != 0) = false := bne_eq_false_iff_eq.mpr c31
                          clear c31
                          obtain rfl := Option.some.inj H
                          have hcz32_0 : wc.cell? ⟨gb133, 0, none⟩ = some (.int .i64 a0_0) := (blk_cell BK133.out 0).trans rfl
                          have hcz32_1 : wc.cell? ⟨gb133, 1, none⟩ = some (.int .i64 a0_1) := (blk_cell BK133.out 1).trans rfl
                          have hcz32_2 : wc.cell? ⟨gb133, 2, none⟩ = some (.string a0_2) := (blk_cell BK133.out 2).trans rfl
                          have hcz32_3 : wc.cell? ⟨gb133, 3, none⟩ = some (.slice A0_3 l0_3.length c0_3) := (blk_cell BK133.out 3).trans rfl
                          have hfz32_0 := blk_frozen BK133.out 0
                          have hfz32_1 := blk_frozen BK133.out 1
                          have hfz32_2 := blk_frozen BK133.out 2
                          have hfz32_3 := blk_frozen BK133.out 3
                          go_wp2_with (first | (go_at_call 12; refine calls_of_args (args' := #[.string a0_2]) (by first | rfl) ?_; (with_reducible refine (switchyardref06_Name.calls kj7 a0_2 true _ A27.out).mono ?_); rintro e w' ⟨rfl, ⟨nd, rfl⟩⟩))
                          go_ret
                          exact ⟨by first | rfl | (simp [errW_none, errW_some] <;> rfl) | (simp [*, errW_none, errW_some] <;> rfl), by repeat (first | (with_reducible first | exact HB.out | apply below_alloc | apply pw_below_drewN | apply below_drew1 | refine below_set ?_ GE133.out) | exact HB.out)⟩
                        · rw [if_neg c31] at H
                          have c31b0 : ((l0_3.length : Int) == 0) = false := beq_eq_false_iff_ne.mpr c31
                          have c31b1 : ((l0_3.length : Int) != 0) = true := bne_iff_ne.mpr c31
                          have c31b2 : ¬ (l0_3 = []) := fun h_ => c31 (by rw [h_]; rfl)
                          obtain rfl := Option.some.inj H
                          have hcz33_0 : wc.cell? ⟨gb133, 0, none⟩ = some (.int .i64 a0_0) := (blk_cell BK133.out 0).trans rfl
                          have hcz33_1 : wc.cell? ⟨gb133, 1, none⟩ = some (.int .i64 a0_1) := (blk_cell BK133.out 1).trans rfl
                          have hcz33_2 : wc.cell? ⟨gb133, 2, none⟩ = some (.string a0_2) := (blk_cell BK133.out 2).trans rfl
                          have hcz33_3 : wc.cell? ⟨gb133, 3, none⟩ = some (.slice A0_3 l0_3.length c0_3) := (blk_cell BK133.out 3).trans rfl
                          have hfz33_0 := blk_frozen BK133.out 0
                          have hfz33_1 := blk_frozen BK133.out 1
                          have hfz33_2 := blk_frozen BK133.out 2
                          have hfz33_3 := blk_frozen BK133.out 3
                          go_wp2_with (first | (go_at_call 12; refine calls_of_args (args' := #[.string a0_2]) (by first | rfl) ?_; (with_reducible refine (switchyardref06_Name.calls kj7 a0_2 true _ A27.out).mono ?_); rintro e w' ⟨rfl, ⟨nd, rfl⟩⟩))
                          go_ret
                          exact ⟨by first | rfl | (simp [errW_none, errW_some] <;> rfl) | (simp [*, errW_none, errW_some] <;> rfl), by repeat (first | (with_reducible first | exact HB.out | apply below_alloc | apply pw_below_drewN | apply below_drew1 | refine below_set ?_ GE133.out) | exact HB.out)⟩
                    · replace c28 := Bool.eq_false_iff.mpr c28
                      subst c28
                      have H1 : (some false) = some r := by rw [if_neg (show ¬ (false = true) by decide)] at H; exact H
                      clear H
                      have H := H1
                      clear H1
                      obtain rfl := Option.some.inj H
                      have hcz34_0 : wc.cell? ⟨gb133, 0, none⟩ = some (.int .i64 a0_0) := (blk_cell BK133.out 0).trans rfl
                      have hcz34_1 : wc.cell? ⟨gb133, 1, none⟩ = some (.int .i64 a0_1) := (blk_cell BK133.out 1).trans rfl
                      have hcz34_2 : wc.cell? ⟨gb133, 2, none⟩ = some (.string a0_2) := (blk_cell BK133.out 2).trans rfl
                      have hcz34_3 : wc.cell? ⟨gb133, 3, none⟩ = some (.slice A0_3 l0_3.length c0_3) := (blk_cell BK133.out 3).trans rfl
                      have hfz34_0 := blk_frozen BK133.out 0
                      have hfz34_1 := blk_frozen BK133.out 1
                      have hfz34_2 := blk_frozen BK133.out 2
                      have hfz34_3 := blk_frozen BK133.out 3
                      go_wp2_with (first | (go_at_call 12; refine calls_of_args (args' := #[.string a0_2]) (by first | rfl) ?_; (with_reducible refine (switchyardref06_Name.calls kj7 a0_2 false _ A27.out).mono ?_); rintro e w' ⟨rfl, ⟨nd, rfl⟩⟩))
                      go_ret
                      exact ⟨by first | rfl | (simp [errW_none, errW_some] <;> rfl) | (simp [*, errW_none, errW_some] <;> rfl), by repeat (first | (with_reducible first | exact HB.out | apply below_alloc | apply pw_below_drewN | apply below_drew1 | refine below_set ?_ GE133.out) | exact HB.out)⟩
                  · rw [if_neg c26] at H
                    have c26b0 : (a0_0 == 4) = false := beq_eq_false_iff_ne.mpr c26
                    have c26b1 : (a0_0 != 4) = true := bne_iff_ne.mpr c26
                    by_cases c35 : a0_0 = 5
                    · rw [if_pos c35] at H
                      have c35b0 : (a0_0 == 5) = true := beq_iff_eq.mpr c35
                      have c35b1 : (a0_0 != 5) = false := bne_eq_false_iff_eq.mpr c35
                      clear c35
                      obtain rfl := Option.some.inj H
                      have hcz36_0 : wc.cell? ⟨gb133, 0, none⟩ = some (.int .i64 a0_0) := (blk_cell BK133.out 0).trans rfl
                      have hcz36_1 : wc.cell? ⟨gb133, 1, none⟩ = some (.int .i64 a0_1) := (blk_cell BK133.out 1).trans rfl
                      have hcz36_2 : wc.cell? ⟨gb133, 2, none⟩ = some (.string a0_2) := (blk_cell BK133.out 2).trans rfl
                      have hcz36_3 : wc.cell? ⟨gb133, 3, none⟩ = some (.slice A0_3 l0_3.length c0_3) := (blk_cell BK133.out 3).trans rfl
                      have hfz36_0 := blk_frozen BK133.out 0
                      have hfz36_1 := blk_frozen BK133.out 1
                      have hfz36_2 := blk_frozen BK133.out 2
                      have hfz36_3 := blk_frozen BK133.out 3
                      go_wp2
                      go_ret
                      exact ⟨by first | rfl | (simp [errW_none, errW_some] <;> rfl) | (simp [*, errW_none, errW_some] <;> rfl), by repeat (first | (with_reducible first | exact HB.out | apply below_alloc | apply pw_below_drewN | apply below_drew1 | refine below_set ?_ GE133.out) | exact HB.out)⟩
                    · rw [if_neg c35] at H
                      have c35b0 : (a0_0 == 5) = false := beq_eq_false_iff_ne.mpr c35
                      have c35b1 : (a0_0 != 5) = true := bne_iff_ne.mpr c35
                      by_cases c37 : (l0_3.length : Int) = 0
                      · rw [if_pos c37] at H
                        have c37b0 : ((l0_3.length : Int) == 0) = true := beq_iff_eq.mpr c37
                        have c37b1 : ((l0_3.length : Int) != 0) = false := bne_eq_false_iff_eq.mpr c37
                        clear c37
                        obtain rfl := Option.some.inj H
                        have hcz38_0 : wc.cell? ⟨gb133, 0, none⟩ = some (.int .i64 a0_0) := (blk_cell BK133.out 0).trans rfl
                        have hcz38_1 : wc.cell? ⟨gb133, 1, none⟩ = some (.int .i64 a0_1) := (blk_cell BK133.out 1).trans rfl
                        have hcz38_2 : wc.cell? ⟨gb133, 2, none⟩ = some (.string a0_2) := (blk_cell BK133.out 2).trans rfl
                        have hcz38_3 : wc.cell? ⟨gb133, 3, none⟩ = some (.slice A0_3 l0_3.length c0_3) := (blk_cell BK133.out 3).trans rfl
                        have hfz38_0 := blk_frozen BK133.out 0
                        have hfz38_1 := blk_frozen BK133.out 1
                        have hfz38_2 := blk_frozen BK133.out 2
                        have hfz38_3 := blk_frozen BK133.out 3
                        go_wp2
                        go_ret
                        exact ⟨by first | rfl | (simp [errW_none, errW_some] <;> rfl) | (simp [*, errW_none, errW_some] <;> rfl), by repeat (first | (with_reducible first | exact HB.out | apply below_alloc | apply pw_below_drewN | apply below_drew1 | refine below_set ?_ GE133.out) | exact HB.out)⟩
                      · rw [if_neg c37] at H
                        have c37b0 : ((l0_3.length : Int) == 0) = false := beq_eq_false_iff_ne.mpr c37
                        have c37b1 : ((l0_3.length : Int) != 0) = true := bne_iff_ne.mpr c37
                        have c37b2 : ¬ (l0_3 = []) := fun h_ => c37 (by rw [h_]; rfl)
                        obtain rfl := Option.some.inj H
                        have hcz39_0 : wc.cell? ⟨gb133, 0, none⟩ = some (.int .i64 a0_0) := (blk_cell BK133.out 0).trans rfl
                        have hcz39_1 : wc.cell? ⟨gb133, 1, none⟩ = some (.int .i64 a0_1) := (blk_cell BK133.out 1).trans rfl
                        have hcz39_2 : wc.cell? ⟨gb133, 2, none⟩ = some (.string a0_2) := (blk_cell BK133.out 2).trans rfl
                        have hcz39_3 : wc.cell? ⟨gb133, 3, none⟩ = some (.slice A0_3 l0_3.length c0_3) := (blk_cell BK133.out 3).trans rfl
                        have hfz39_0 := blk_frozen BK133.out 0
                        have hfz39_1 := blk_frozen BK133.out 1
                        have hfz39_2 := blk_frozen BK133.out 2
                        have hfz39_3 := blk_frozen BK133.out 3
                        go_wp2
                        go_ret
                        exact ⟨by first | rfl | (simp [errW_none, errW_some] <;> rfl) | (simp [*, errW_none, errW_some] <;> rfl), by repeat (first | (with_reducible first | exact HB.out | apply below_alloc | apply pw_below_drewN | apply below_drew1 | refine below_set ?_ GE133.out) | exact HB.out)⟩
              · rw [if_neg c23] at H
                have c23b0 : (a0_0 == 3) = false := beq_eq_false_iff_ne.mpr c23
                have c23b1 : (a0_0 != 3) = true := bne_iff_ne.mpr c23
                by_cases c40 : a0_0 = 4
                · rw [if_pos c40] at H
                  have c40b0 : (a0_0 == 4) = true := beq_iff_eq.mpr c40
                  have c40b1 : (a0_0 != 4) = false := bne_eq_false_iff_eq.mpr c40
                  clear c40
                  replace H := Option.bind_eq_some_iff.mp H
                  obtain ⟨t135, A410, H⟩ := H
                  replace H : (if t135 = true then (if a0_0 = 5 then (some (decide ((l0_3.length : Int) ≤ 16))) else (if (l0_3.length : Int) = 0 then (some true) else (some false))) else (some false)) = some r := H
                  have A41 := Aside0.mk A410
                  clear A410
                  by_cases c42 : t135 = true
                  · subst c42
                    have H1 : (if a0_0 = 5 then (some (decide ((l0_3.length : Int) ≤ 16))) else (if (l0_3.length : Int) = 0 then (some true) else (some false))) = some r := by rw [if_pos rfl] at H; exact H
                    clear H
                    have H := H1
                    clear H1
                    by_cases c43 : a0_0 = 5
                    · rw [if_pos c43] at H
                      have c43b0 : (a0_0 == 5) = true := beq_iff_eq.mpr c43
                      have c43b1 : (a0_0 != 5) = false := bne_eq_false_iff_eq.mpr c43
                      clear c43
                      obtain rfl := Option.some.inj H
                      have hcz44_0 : wc.cell? ⟨gb133, 0, none⟩ = some (.int .i64 a0_0) := (blk_cell BK133.out 0).trans rfl
                      have hcz44_1 : wc.cell? ⟨gb133, 1, none⟩ = some (.int .i64 a0_1) := (blk_cell BK133.out 1).trans rfl
                      have hcz44_2 : wc.cell? ⟨gb133, 2, none⟩ = some (.string a0_2) := (blk_cell BK133.out 2).trans rfl
                      have hcz44_3 : wc.cell? ⟨gb133, 3, none⟩ = some (.slice A0_3 l0_3.length c0_3) := (blk_cell BK133.out 3).trans rfl
                      have hfz44_0 := blk_frozen BK133.out 0
                      have hfz44_1 := blk_frozen BK133.out 1
                      have hfz44_2 := blk_frozen BK133.out 2
                      have hfz44_3 := blk_frozen BK133.out 3
                      go_wp2_with (first | (go_at_call 12; refine calls_of_args (args' := #[.string a0_2]) (by first | rfl) ?_; (with_reducible refine (switchyardref06_Name.calls kj7 a0_2 true _ A41.out).mono ?_); rintro e w' ⟨rfl, ⟨nd, rfl⟩⟩))
                      go_ret
                      exact ⟨by first | rfl | (simp [errW_none, errW_some] <;> rfl) | (simp [*, errW_none, errW_some] <;> rfl), by repeat (first | (with_reducible first | exact HB.out | apply below_alloc | apply pw_below_drewN | apply below_drew1 | refine below_set ?_ GE133.out) | exact HB.out)⟩
                    · rw [if_neg c43] at H
                      have c43b0 : (a0_0 == 5) = false := beq_eq_false_iff_ne.mpr c43
                      have c43b1 : (a0_0 != 5) = true := bne_iff_ne.mpr c43
                      by_cases c45 : (l0_3.length : Int) = 0
                      · rw [if_pos c45] at H
                        have c45b0 : ((l0_3.length : Int) == 0) = true := beq_iff_eq.mpr c45
                        have c45b1 : ((l0_3.length : Int) != 0) = false := bne_eq_false_iff_eq.mpr c45
                        clear c45
                        obtain rfl := Option.some.inj H
                        have hcz46_0 : wc.cell? ⟨gb133, 0, none⟩ = some (.int .i64 a0_0) := (blk_cell BK133.out 0).trans rfl
                        have hcz46_1 : wc.cell? ⟨gb133, 1, none⟩ = some (.int .i64 a0_1) := (blk_cell BK133.out 1).trans rfl
                        have hcz46_2 : wc.cell? ⟨gb133, 2, none⟩ = some (.string a0_2) := (blk_cell BK133.out 2).trans rfl
                        have hcz46_3 : wc.cell? ⟨gb133, 3, none⟩ = some (.slice A0_3 l0_3.length c0_3) := (blk_cell BK133.out 3).trans rfl
                        have hfz46_0 := blk_frozen BK133.out 0
                        have hfz46_1 := blk_frozen BK133.out 1
                        have hfz46_2 := blk_frozen BK133.out 2
                        have hfz46_3 := blk_frozen BK133.out 3
                        go_wp2_with (first | (go_at_call 12; refine calls_of_args (args' := #[.string a0_2]) (by first | rfl) ?_; (with_reducible refine (switchyardref06_Name.calls kj7 a0_2 true _ A41.out).mono ?_); rintro e w' ⟨rfl, ⟨nd, rfl⟩⟩))
                        go_ret
                        exact ⟨by first | rfl | (simp [errW_none, errW_some] <;> rfl) | (simp [*, errW_none, errW_some] <;> rfl), by repeat (first | (with_reducible first | exact HB.out | apply below_alloc | apply pw_below_drewN | apply below_drew1 | refine below_set ?_ GE133.out) | exact HB.out)⟩
                      · rw [if_neg c45] at H
                        have c45b0 : ((l0_3.length : Int) == 0) = false := beq_eq_false_iff_ne.mpr c45
                        have c45b1 : ((l0_3.length : Int) != 0) = true := bne_iff_ne.mpr c45
                        have c45b2 : ¬ (l0_3 = []) := fun h_ => c45 (by rw [h_]; rfl)
                        obtain rfl := Option.some.inj H
                        have hcz47_0 : wc.cell? ⟨gb133, 0, none⟩ = some (.int .i64 a0_0) := (blk_cell BK133.out 0).trans rfl
                        have hcz47_1 : wc.cell? ⟨gb133, 1, none⟩ = some (.int .i64 a0_1) := (blk_cell BK133.out 1).trans rfl
                        have hcz47_2 : wc.cell? ⟨gb133, 2, none⟩ = some (.string a0_2) := (blk_cell BK133.out 2).trans rfl
                        have hcz47_3 : wc.cell? ⟨gb133, 3, none⟩ = some (.slice A0_3 l0_3.length c0_3) := (blk_cell BK133.out 3).trans rfl
                        have hfz47_0 := blk_frozen BK133.out 0
                        have hfz47_1 := blk_frozen BK133.out 1
                        have hfz47_2 := blk_frozen BK133.out 2
                        have hfz47_3 := blk_frozen BK133.out 3
                        go_wp2_with (first | (go_at_call 12; refine calls_of_args (args' := #[.string a0_2]) (by first | rfl) ?_; (with_reducible refine (switchyardref06_Name.calls kj7 a0_2 true _ A41.out).mono ?_); rintro e w' ⟨rfl, ⟨nd, rfl⟩⟩))
                        go_ret
                        exact ⟨by first | rfl | (simp [errW_none, errW_some] <;> rfl) | (simp [*, errW_none, errW_some] <;> rfl), by repeat (first | (with_reducible first | exact HB.out | apply below_alloc | apply pw_below_drewN | apply below_drew1 | refine below_set ?_ GE133.out) | exact HB.out)⟩
                  · replace c42 := Bool.eq_false_iff.mpr c42
                    subst c42
                    have H1 : (some false) = some r := by rw [if_neg (show ¬ (false = true) by decide)] at H; exact H
                    clear H
                    have H := H1
                    clear H1
                    obtain rfl := Option.some.inj H
                    have hcz48_0 : wc.cell? ⟨gb133, 0, none⟩ = some (.int .i64 a0_0) := (blk_cell BK133.out 0).trans rfl
                    have hcz48_1 : wc.cell? ⟨gb133, 1, none⟩ = some (.int .i64 a0_1) := (blk_cell BK133.out 1).trans rfl
                    have hcz48_2 : wc.cell? ⟨gb133, 2, none⟩ = some (.string a0_2) := (blk_cell BK133.out 2).trans rfl
                    have hcz48_3 : wc.cell? ⟨gb133, 3, none⟩ = some (.slice A0_3 l0_3.length c0_3) := (blk_cell BK133.out 3).trans rfl
                    have hfz48_0 := blk_frozen BK133.out 0
                    have hfz48_1 := blk_frozen BK133.out 1
                    have hfz48_2 := blk_frozen BK133.out 2
                    have hfz48_3 := blk_frozen BK133.out 3
                    go_wp2_with (first | (go_at_call 12; refine calls_of_args (args' := #[.string a0_2]) (by first | rfl) ?_; (with_reducible refine (switchyardref06_Name.calls kj7 a0_2 false _ A41.out).mono ?_); rintro e w' ⟨rfl, ⟨nd, rfl⟩⟩))
                    go_ret
                    exact ⟨by first | rfl | (simp [errW_none, errW_some] <;> rfl) | (simp [*, errW_none, errW_some] <;> rfl), by repeat (first | (with_reducible first | exact HB.out | apply below_alloc | apply pw_below_drewN | apply below_drew1 | refine below_set ?_ GE133.out) | exact HB.out)⟩
                · rw [if_neg c40] at H
                  have c40b0 : (a0_0 == 4) = false := beq_eq_false_iff_ne.mpr c40
                  have c40b1 : (a0_0 != 4) = true := bne_iff_ne.mpr c40
                  by_cases c49 : (a0_2.size : Int) > 0
                  · rw [if_pos c49] at H
                    have c49b0 : decide (0 < (a0_2.size : Int)) = true := decide_eq_true c49
                    have c49b1 : decide (0 < a0_2.size) = true := decide_eq_true (by omega)
                    clear c49
                    obtain rfl := Option.some.inj H
                    have hcz50_0 : wc.cell? ⟨gb133, 0, none⟩ = some (.int .i64 a0_0) := (blk_cell BK133.out 0).trans rfl
                    have hcz50_1 : wc.cell? ⟨gb133, 1, none⟩ = some (.int .i64 a0_1) := (blk_cell BK133.out 1).trans rfl
                    have hcz50_2 : wc.cell? ⟨gb133, 2, none⟩ = some (.string a0_2) := (blk_cell BK133.out 2).trans rfl
                    have hcz50_3 : wc.cell? ⟨gb133, 3, none⟩ = some (.slice A0_3 l0_3.length c0_3) := (blk_cell BK133.out 3).trans rfl
                    have hfz50_0 := blk_frozen BK133.out 0
                    have hfz50_1 := blk_frozen BK133.out 1
                    have hfz50_2 := blk_frozen BK133.out 2
                    have hfz50_3 := blk_frozen BK133.out 3
                    go_wp2
                    go_ret
                    exact ⟨by first | rfl | (simp [errW_none, errW_some] <;> rfl) | (simp [*, errW_none, errW_some] <;> rfl), by repeat (first | (with_reducible first | exact HB.out | apply below_alloc | apply pw_below_drewN | apply below_drew1 | refine below_set ?_ GE133.out) | exact HB.out)⟩
                  · rw [if_neg c49] at H
                    have c49b0 : decide (0 < (a0_2.size : Int)) = false := decide_eq_false c49
                    have c49b1 : decide (0 < a0_2.size) = false := decide_eq_false (by omega)
                    clear c49
                    by_cases c51 : a0_0 = 5
                    · rw [if_pos c51] at H
                      have c51b0 : (a0_0 == 5) = true := beq_iff_eq.mpr c51
                      have c51b1 : (a0_0 != 5) = false := bne_eq_false_iff_eq.mpr c51
                      clear c51
                      obtain rfl := Option.some.inj H
                      have hcz52_0 : wc.cell? ⟨gb133, 0, none⟩ = some (.int .i64 a0_0) := (blk_cell BK133.out 0).trans rfl
                      have hcz52_1 : wc.cell? ⟨gb133, 1, none⟩ = some (.int .i64 a0_1) := (blk_cell BK133.out 1).trans rfl
                      have hcz52_2 : wc.cell? ⟨gb133, 2, none⟩ = some (.string a0_2) := (blk_cell BK133.out 2).trans rfl
                      have hcz52_3 : wc.cell? ⟨gb133, 3, none⟩ = some (.slice A0_3 l0_3.length c0_3) := (blk_cell BK133.out 3).trans rfl
                      have hfz52_0 := blk_frozen BK133.out 0
                      have hfz52_1 := blk_frozen BK133.out 1
                      have hfz52_2 := blk_frozen BK133.out 2
                      have hfz52_3 := blk_frozen BK133.out 3
                      go_wp2
                      go_ret
                      exact ⟨by first | rfl | (simp [errW_none, errW_some] <;> rfl) | (simp [*, errW_none, errW_some] <;> rfl), by repeat (first | (with_reducible first | exact HB.out | apply below_alloc | apply pw_below_drewN | apply below_drew1 | refine below_set ?_ GE133.out) | exact HB.out)⟩
                    · rw [if_neg c51] at H
                      have c51b0 : (a0_0 == 5) = false := beq_eq_false_iff_ne.mpr c51
                      have c51b1 : (a0_0 != 5) = true := bne_iff_ne.mpr c51
                      by_cases c53 : (l0_3.length : Int) = 0
                      · rw [if_pos c53] at H
                        have c53b0 : ((l0_3.length : Int) == 0) = true := beq_iff_eq.mpr c53
                        have c53b1 : ((l0_3.length : Int) != 0) = false := bne_eq_false_iff_eq.mpr c53
                        clear c53
                        obtain rfl := Option.some.inj H
                        have hcz54_0 : wc.cell? ⟨gb133, 0, none⟩ = some (.int .i64 a0_0) := (blk_cell BK133.out 0).trans rfl
                        have hcz54_1 : wc.cell? ⟨gb133, 1, none⟩ = some (.int .i64 a0_1) := (blk_cell BK133.out 1).trans rfl
                        have hcz54_2 : wc.cell? ⟨gb133, 2, none⟩ = some (.string a0_2) := (blk_cell BK133.out 2).trans rfl
                        have hcz54_3 : wc.cell? ⟨gb133, 3, none⟩ = some (.slice A0_3 l0_3.length c0_3) := (blk_cell BK133.out 3).trans rfl
                        have hfz54_0 := blk_frozen BK133.out 0
                        have hfz54_1 := blk_frozen BK133.out 1
                        have hfz54_2 := blk_frozen BK133.out 2
                        have hfz54_3 := blk_frozen BK133.out 3
                        go_wp2
                        go_ret
                        exact ⟨by first | rfl | (simp [errW_none, errW_some] <;> rfl) | (simp [*, errW_none, errW_some] <;> rfl), by repeat (first | (with_reducible first | exact HB.out | apply below_alloc | apply pw_below_drewN | apply below_drew1 | refine below_set ?_ GE133.out) | exact HB.out)⟩
                      · rw [if_neg c53] at H
                        have c53b0 : ((l0_3.length : Int) == 0) = false := beq_eq_false_iff_ne.mpr c53
                        have c53b1 : ((l0_3.length : Int) != 0) = true := bne_iff_ne.mpr c53
                        have c53b2 : ¬ (l0_3 = []) := fun h_ => c53 (by rw [h_]; rfl)
                        obtain rfl := Option.some.inj H
                        have hcz55_0 : wc.cell? ⟨gb133, 0, none⟩ = some (.int .i64 a0_0) := (blk_cell BK133.out 0).trans rfl
                        have hcz55_1 : wc.cell? ⟨gb133, 1, none⟩ = some (.int .i64 a0_1) := (blk_cell BK133.out 1).trans rfl
                        have hcz55_2 : wc.cell? ⟨gb133, 2, none⟩ = some (.string a0_2) := (blk_cell BK133.out 2).trans rfl
                        have hcz55_3 : wc.cell? ⟨gb133, 3, none⟩ = some (.slice A0_3 l0_3.length c0_3) := (blk_cell BK133.out 3).trans rfl
                        have hfz55_0 := blk_frozen BK133.out 0
                        have hfz55_1 := blk_frozen BK133.out 1
                        have hfz55_2 := blk_frozen BK133.out 2
                        have hfz55_3 := blk_frozen BK133.out 3
                        go_wp2
                        go_ret
                        exact ⟨by first | rfl | (simp [errW_none, errW_some] <;> rfl) | (simp [*, errW_none, errW_some] <;> rfl), by repeat (first | (with_reducible first | exact HB.out | apply below_alloc | apply pw_below_drewN | apply below_drew1 | refine below_set ?_ GE133.out) | exact HB.out)⟩

end Go.Proofs.YtdmmgeggljlceaaDoor.XV
