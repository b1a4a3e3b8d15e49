/- switchyard/switchyardlaw07.LexScans: for every input the law answers true, and its arguments read as before; the listed library tables are tied to the program's text by the given tie. Conditions: none but the card's own. -/
import Derived.Test.YtdjcechogbcdnaaDoorKScans3
import Derived.SizedLaws
import Derived.ChangeArms
import Derived.DataReads
import Derived.Lib.LaidU8
import Derived.Lib.LaidTab
import Derived.MakeChecks
import Derived.LaidLaws
import Derived.Stop.LaidErr
import Derived.Test.YtdjcechogbcdnaaDoorRows
import Derived.Test.YtdjcechogbcdnaaDoorCards
import Derived.Test.YtdjcechogbcdnaaDoorTie
import Derived.WalkKit
import Derived.ProofKit
import Derived.OpenShut
import Derived.ShutString
import Derived.ChangeOld
import Derived.Below
import Derived.LaidMore
import Derived.Stop.Joined
import Derived.SevenTiedAt
namespace Go.Proofs.YtdjcechogbcdnaaDoor.XL
open Go.RowKit Go.Proofs.YtdjcechogbcdnaaDoorW.PrintWords Go.Proofs.YtdjcechogbcdnaaDoorW.PrintLast Go.Proofs.YtdjcechogbcdnaaDoorW.PrintMore
attribute [local go_sem] max2_int min2_int max_two min_two max_three min_three max_four min_four   -- for this text's walks alone
set_option linter.unusedVariables false
set_option linter.unusedSimpArgs false
mutual
def switchyardref07_token.j0 : Nat → ByteArray → Int → Int → Bool → Option (Int × ByteArray × Int × Int × Int)
  | 0, _, _, _, _ => none
  | k + 1, x0, x1, x6, x38 => if x38 = true then (if x6 = 39 then (switchyardref07_token.j1 k x0 x1 (wrap64 (x1 + 1)) 4) else (switchyardref07_token.j1 k x0 x1 x1 1)) else (if x6 ≥ 48 then (switchyardref07_token.j3 k x0 x1 x6 (decide (x6 ≤ 57))) else (switchyardref07_token.j3 k x0 x1 x6 false))
def switchyardref07_token.j1 : Nat → ByteArray → Int → Int → Int → Option (Int × ByteArray × Int × Int × Int)
  | 0, _, _, _, _ => none
  | k + 1, x0, x1, x7, x8 => switchyardref07_token.l0 k x0 x1 x7 x8 x7
def switchyardref07_token.l0 : Nat → ByteArray → Int → Int → Int → Int → Option (Int × ByteArray × Int × Int × Int)
  | 0, _, _, _, _, _ => none
  | k + 1, x0, x1, x7, x8, x9 => if x9 < (x0.size : Int) then (if 0 ≤ x9 then ((switchyardref07_word.f (bt x0 x9)).bind fun t240 => (if t240 = true then (switchyardref07_token.l0 k x0 x1 x7 x8 (wrap64 (x9 + 1))) else (if 0 ≤ x7 then (if x7 ≤ x9 then (if x9 ≤ (x0.size : Int) then ((switchyardref06_Name.f k (x0.extract (x7 : Int).toNat (x9 : Int).toNat)).bind fun t241 => (if t241 = true then (some (x8, x0.extract (x7 : Int).toNat (x9 : Int).toNat, 0, x1, wrap64 (x9 - x1))) else (some (0, (⟨#[]⟩ : ByteArray), 0, 0, 0)))) else (none)) else (none)) else (none)))) else (none)) else (if 0 ≤ x7 then (if x7 ≤ x9 then (if x9 ≤ (x0.size : Int) then ((switchyardref06_Name.f k (x0.extract (x7 : Int).toNat (x9 : Int).toNat)).bind fun t242 => (if t242 = true then (some (x8, x0.extract (x7 : Int).toNat (x9 : Int).toNat, 0, x1, wrap64 (x9 - x1))) else (some (0, (⟨#[]⟩ : ByteArray), 0, 0, 0)))) else (none)) else (none)) else (none))
def switchyardref07_token.j3 : Nat → ByteArray → Int → Int → Bool → Option (Int × ByteArray × Int × Int × Int)
  | 0, _, _, _, _ => none
  | k + 1, x0, x1, x6, x79 => if x79 = true then (switchyardref07_token.l1 k x0 x1 x1) else (if x6 = 34 then ((switchyardref07_quoted.f k x0 x1).bind fun t249 => (if t249 = 0 then (some (0, (⟨#[]⟩ : ByteArray), 0, 0, 0)) else (if 0 ≤ x1 then (if x1 ≤ (wrap64 (x1 + t249)) then (if (wrap64 (x1 + t249)) ≤ (x0.size : Int) then ((switchyardref07_said.f k (x0.extract (x1 : Int).toNat ((wrap64 (x1 + t249)) : Int).toNat)).bind fun bt250 => (if bt250.2 = true then (some (3, bt250.1, 0, x1, t249)) else (some (0, (⟨#[]⟩ : ByteArray), 0, 0, 0)))) else (none)) else (none)) else (none)))) else ((switchyardref07_signs.f).bind fun t252 => (switchyardref07_token.l2 k x0 x1 t252 (t252.length : Int) 0)))
def switchyardref07_token.l1 : Nat → ByteArray → Int → Int → Option (Int × ByteArray × Int × Int × Int)
  | 0, _, _, _ => none
  | k + 1, x0, x1, x10 => if x10 < (x0.size : Int) then (if 0 ≤ x10 then (if (bt x0 x10) ≥ 48 then (if (bt x0 x10) ≤ 57 then (switchyardref07_token.l1 k x0 x1 (wrap64 (x10 + 1))) else (if 0 ≤ x1 then (if x1 ≤ x10 then (if x10 ≤ (x0.size : Int) then ((switchyardref07_digits.f k (x0.extract (x1 : Int).toNat (x10 : Int).toNat)).bind fun bt243 => (if bt243.2 = true then (some (2, x0.extract (x1 : Int).toNat (x10 : Int).toNat, bt243.1, x1, wrap64 (x10 - x1))) else (some (0, (⟨#[]⟩ : ByteArray), 0, 0, 0)))) else (none)) else (none)) else (none))) else (if 0 ≤ x1 then (if x1 ≤ x10 then (if x10 ≤ (x0.size : Int) then ((switchyardref07_digits.f k (x0.extract (x1 : Int).toNat (x10 : Int).toNat)).bind fun bt245 => (if bt245.2 = true then (some (2, x0.extract (x1 : Int).toNat (x10 : Int).toNat, bt245.1, x1, wrap64 (x10 - x1))) else (some (0, (⟨#[]⟩ : ByteArray), 0, 0, 0)))) else (none)) else (none)) else (none))) else (none)) else (if 0 ≤ x1 then (if x1 ≤ x10 then (if x10 ≤ (x0.size : Int) then ((switchyardref07_digits.f k (x0.extract (x1 : Int).toNat (x10 : Int).toNat)).bind fun bt247 => (if bt247.2 = true then (some (2, x0.extract (x1 : Int).toNat (x10 : Int).toNat, bt247.1, x1, wrap64 (x10 - x1))) else (some (0, (⟨#[]⟩ : ByteArray), 0, 0, 0)))) else (none)) else (none)) else (none))
def switchyardref07_token.l2 : Nat → ByteArray → Int → List ByteArray → Int → Int → Option (Int × ByteArray × Int × Int × Int)
  | 0, _, _, _, _, _ => none
  | k + 1, x0, x1, x145, x146, x147 => if x147 < x146 then (if 0 ≤ x147 then (if x147 < (x145.length : Int) then (if (wrap64 (x1 + ((rdOf ByteArray.empty x145 x147).size : Int))) ≤ (x0.size : Int) then (if 0 ≤ x1 then (if x1 ≤ (wrap64 (x1 + ((rdOf ByteArray.empty x145 x147).size : Int))) then (if (x0.extract (x1 : Int).toNat ((wrap64 (x1 + ((rdOf ByteArray.empty x145 x147).size : Int))) : Int).toNat).toList = (rdOf ByteArray.empty x145 x147).toList then (some (5, rdOf ByteArray.empty x145 x147, 0, x1, ((rdOf ByteArray.empty x145 x147).size : Int))) else (switchyardref07_token.l2 k x0 x1 x145 x146 (wrap64 (x147 + 1)))) else (none)) else (none)) else (switchyardref07_token.l2 k x0 x1 x145 x146 (wrap64 (x147 + 1)))) else (none)) else (none)) else (some (0, (⟨#[]⟩ : ByteArray), 0, 0, 0))
end
def switchyardref07_token.f (k : Nat) (a0 : ByteArray) (a1 : Int) : Option (Int × ByteArray × Int × Int × Int) := if 0 ≤ a1 then (if a1 < (a0.size : Int) then (if (bt a0 a1) = 39 then (switchyardref07_token.j0 k a0 a1 (bt a0 a1) true) else ((switchyardref07_word.f (bt a0 a1)).bind fun t239 => (if t239 = true then (if (bt a0 a1) < 48 then (switchyardref07_token.j0 k a0 a1 (bt a0 a1) ((bt a0 a1) != 95)) else (if (bt a0 a1) > 57 then (switchyardref07_token.j0 k a0 a1 (bt a0 a1) ((bt a0 a1) != 95)) else (switchyardref07_token.j0 k a0 a1 (bt a0 a1) false))) else (switchyardref07_token.j0 k a0 a1 (bt a0 a1) false)))) else (none)) else (none)
set_option maxHeartbeats 4000000 in
set_option maxRecDepth 100000 in
theorem switchyardref07_token.calls (k : Nat) (a0 : ByteArray) (a1 : Int) (r1 : Int) (r2 : ByteArray) (r3 : Int) (r4 : Int) (r5 : Int) (w : World) (h : switchyardref07_token.f k a0 a1 = some (r1, r2, r3, r4, r5)) :
    Calls Tryd.prog 15 #[.string a0, .int .i64 a1] w fun e w' => e = .returned (.tuple #[.agg #[.int .i64 r1, .string r2, .int .i64 r3, .int .i64 r4], .int .i64 r5]) ∧ Below w.heap.size w w' := by
  have hu32 := Tryd.underlying32
  have HB := Aside0.mk (Below.refl w.heap.size w)
  have H : (if 0 ≤ a1 then (if a1 < (a0.size : Int) then (if (bt a0 a1) = 39 then (switchyardref07_token.j0 k a0 a1 (bt a0 a1) true) else ((switchyardref07_word.f (bt a0 a1)).bind fun t239 => (if t239 = true then (if (bt a0 a1) < 48 then (switchyardref07_token.j0 k a0 a1 (bt a0 a1) ((bt a0 a1) != 95)) else (if (bt a0 a1) > 57 then (switchyardref07_token.j0 k a0 a1 (bt a0 a1) ((bt a0 a1) != 95)) else (switchyardref07_token.j0 k a0 a1 (bt a0 a1) false))) else (switchyardref07_token.j0 k a0 a1 (bt a0 a1) false)))) else (none)) else (none)) = some (r1, r2, r3, r4, r5) := h
  clear h
  by_cases c3 : 0 ≤ a1
  · rw [if_pos c3] at H
    have c3b0 : decide (0 ≤ a1) = true := decide_eq_true c3
    clear c3
    by_cases c4 : a1 < (a0.size : Int)
    · rw [if_pos c4] at H
      have c4b0 : decide (a1 < (a0.size : Int)) = true := decide_eq_true c4
      clear c4
      have HC6 := Aside0.mk H
      clear H
      go_enter Tryd.func15, Tryd.ntmps15
      go_upto_region 2 with (first | ((with_reducible refine gate_dst (N := 4) rfl ?_); (try (refine gate_guard (by rfl) ?_; dsimp only)); refine box_event ?hg (N := 4) ?hd (cs := #[.int .i64 0, .string (⟨#[]⟩ : ByteArray), .int .i64 0, .int .i64 0]) (t := 32) ?hr ?_; (case hd => rfl); (case hg => rfl); (case hr => first | (go_simp; done) | (go_simp; rfl)); intro gb238 hg w7 hbox hb; have n0_ := Aside0.mk (below_step (by repeat (first | (with_reducible first | exact HB.out | apply below_alloc | apply pw_below_drewN | apply below_drew1) | exact HB.out)) hb); have n1_ := Aside0.mk (hbox); have n2_ := Aside0.mk ((by rw [hg]; exact (below_size (by repeat (first | (with_reducible first | exact HB.out | apply below_alloc | apply pw_below_drewN | apply below_drew1) | exact HB.out))) : w.heap.size ≤ gb238)); have n3_ := Aside0.mk ((by rw [hg]; exact (below_size (by repeat (first | (with_reducible first | exact HB.out | apply below_alloc | apply pw_below_drewN | apply below_drew1) | exact HB.out))) : w.heap.size ≤ gb238)); clear HB; have HB := n0_; have BK238 := n1_; have GW238 := n2_; have GE238 := n3_; clear n0_ n1_ n2_ n3_; clear hb hbox hg; have p5 : 0 ≤ (a1 : Int) := of_decide_eq_true (by first | (with_reducible assumption) | assumption); have q5 : a1 < (a0.size : Int) := of_decide_eq_true (by first | (with_reducible assumption) | assumption); have hx5 := bt_at a0 a1; replace p5 := eq_true p5; replace q5 := eq_true q5))
      (try simp only [Act.put, List.setIfInBounds_toArray, List.set_cons_zero, List.set_cons_succ])
      go_cut [38] (fun v38 wc => ∃ (kq : Nat) (x38_5 : Bool), v38 = .bool x38_5 ∧ Aside0 (switchyardref07_token.j0 kq a0 a1 (bt a0 a1) x38_5 = some (r1, r2, r3, r4, r5)) ∧ Aside0 (kq ≤ k) ∧ Aside0 (wc.heap[gb238]? = some (.cells #[.int .i64 0, .string (⟨#[]⟩ : ByteArray), .int .i64 0, .int .i64 0] 32 (0, 0))) ∧ Aside0 (Below w.heap.size w wc))
      case first =>
        have H := HC6.out
        clear HC6
        by_cases c8 : (bt a0 a1) = 39
        · rw [if_pos c8] at H
          have c8b0 : ((bt a0 a1) == 39) = true := beq_iff_eq.mpr c8
          have c8b1 : ((bt a0 a1) != 39) = false := bne_eq_false_iff_eq.mpr c8
          clear c8
          (first | rw [c8b0] | (simp only [i64_w, i32_w]; rw [c8b0]) | skip)
          have H' := Aside0.mk H
          clear H
          go_wp2
          go_meet
          case rel => exact ⟨_, (true), (by first | rfl | (simp; done) | (simp [*]; done)), H', ⟨by first | omega | exact Nat.le_refl _⟩, ⟨by (with_reducible repeat (first | refine blk_drewN ?_ _ | refine blk_drew ?_ | refine blk_alloc ?_ _)); exact BK238.out⟩, ⟨by repeat (first | (with_reducible first | exact HB.out | apply below_alloc | apply pw_below_drewN | apply below_drew1 | refine below_set ?_ GE238.out) | exact HB.out)⟩⟩
        · rw [if_neg c8] at H
          have c8b0 : ((bt a0 a1) == 39) = false := beq_eq_false_iff_ne.mpr c8
          have c8b1 : ((bt a0 a1) != 39) = true := bne_iff_ne.mpr c8
          (first | rw [c8b0] | (simp only [i64_w, i32_w]; rw [c8b0]) | skip)
          replace H := Option.bind_eq_some_iff.mp H
          obtain ⟨t239, A90, H⟩ := H
          replace H : (if t239 = true then (if (bt a0 a1) < 48 then (switchyardref07_token.j0 k a0 a1 (bt a0 a1) ((bt a0 a1) != 95)) else (if (bt a0 a1) > 57 then (switchyardref07_token.j0 k a0 a1 (bt a0 a1) ((bt a0 a1) != 95)) else (switchyardref07_token.j0 k a0 a1 (bt a0 a1) false))) else (switchyardref07_token.j0 k a0 a1 (bt a0 a1) false)) = some (r1, r2, r3, r4, r5) := H
          have A9 := Aside0.mk A90
          clear A90
          by_cases c10 : t239 = true
          · subst c10
            have H1 : (if (bt a0 a1) < 48 then (switchyardref07_token.j0 k a0 a1 (bt a0 a1) ((bt a0 a1) != 95)) else (if (bt a0 a1) > 57 then (switchyardref07_token.j0 k a0 a1 (bt a0 a1) ((bt a0 a1) != 95)) else (switchyardref07_token.j0 k a0 a1 (bt a0 a1) false))) = some (r1, r2, r3, r4, r5) := by rw [if_pos rfl] at H; exact H
            clear H
            have H := H1
            clear H1
            by_cases c11 : (bt a0 a1) < 48
            · rw [if_pos c11] at H
              have c11b0 : decide ((bt a0 a1) < 48) = true := decide_eq_true c11
              clear c11
              have H' := Aside0.mk H
              clear H
              go_wp2_with (first | (go_at_call 26; refine calls_of_args (args' := #[.int .u8 (bt a0 a1)]) (by first | rfl) ?_; (with_reducible refine (switchyardref07_word.calls (bt a0 a1) true _ A9.out).mono ?_); rintro e w' ⟨rfl, ⟨nd, rfl⟩⟩))
              go_meet
              case rel => exact ⟨_, (((bt a0 a1) != 95)), (by first | rfl | (simp; done) | (simp [*]; done)), H', ⟨by first | omega | exact Nat.le_refl _⟩, ⟨by (with_reducible repeat (first | refine blk_drewN ?_ _ | refine blk_drew ?_ | refine blk_alloc ?_ _)); exact BK238.out⟩, ⟨by repeat (first | (with_reducible first | exact HB.out | apply below_alloc | apply pw_below_drewN | apply below_drew1 | refine below_set ?_ GE238.out) | exact HB.out)⟩⟩
            · rw [if_neg c11] at H
              have c11b0 : decide ((bt a0 a1) < 48) = false := decide_eq_false c11
              clear c11
              by_cases c12 : (bt a0 a1) > 57
              · rw [if_pos c12] at H
                have c12b0 : decide (57 < (bt a0 a1)) = true := decide_eq_true c12
                clear c12
                have H' := Aside0.mk H
                clear H
                go_wp2_with (first | (go_at_call 26; refine calls_of_args (args' := #[.int .u8 (bt a0 a1)]) (by first | rfl) ?_; (with_reducible refine (switchyardref07_word.calls (bt a0 a1) true _ A9.out).mono ?_); rintro e w' ⟨rfl, ⟨nd, rfl⟩⟩))
                go_meet
                case rel => exact ⟨_, (((bt a0 a1) != 95)), (by first | rfl | (simp; done) | (simp [*]; done)), H', ⟨by first | omega | exact Nat.le_refl _⟩, ⟨by (with_reducible repeat (first | refine blk_drewN ?_ _ | refine blk_drew ?_ | refine blk_alloc ?_ _)); exact BK238.out⟩, ⟨by repeat (first | (with_reducible first | exact HB.out | apply below_alloc | apply pw_below_drewN | apply below_drew1 | refine below_set ?_ GE238.out) | exact HB.out)⟩⟩
              · rw [if_neg c12] at H
                have c12b0 : decide (57 < (bt a0 a1)) = false := decide_eq_false c12
                clear c12
                have H' := Aside0.mk H
                clear H
                go_wp2_with (first | (go_at_call 26; refine calls_of_args (args' := #[.int .u8 (bt a0 a1)]) (by first | rfl) ?_; (with_reducible refine (switchyardref07_word.calls (bt a0 a1) true _ A9.out).mono ?_); rintro e w' ⟨rfl, ⟨nd, rfl⟩⟩))
                go_meet
                case rel => exact ⟨_, (false), (by first | rfl | (simp; done) | (simp [*]; done)), H', ⟨by first | omega | exact Nat.le_refl _⟩, ⟨by (with_reducible repeat (first | refine blk_drewN ?_ _ | refine blk_drew ?_ | refine blk_alloc ?_ _)); exact BK238.out⟩, ⟨by repeat (first | (with_reducible first | exact HB.out | apply below_alloc | apply pw_below_drewN | apply below_drew1 | refine below_set ?_ GE238.out) | exact HB.out)⟩⟩
          · replace c10 := Bool.eq_false_iff.mpr c10
            subst c10
            have H1 : (switchyardref07_token.j0 k a0 a1 (bt a0 a1) false) = some (r1, r2, r3, r4, r5) := by rw [if_neg (show ¬ (false = true) by decide)] at H; exact H
            clear H
            have H := H1
            clear H1
            have H' := Aside0.mk H
            clear H
            go_wp2_with (first | (go_at_call 26; refine calls_of_args (args' := #[.int .u8 (bt a0 a1)]) (by first | rfl) ?_; (with_reducible refine (switchyardref07_word.calls (bt a0 a1) false _ A9.out).mono ?_); rintro e w' ⟨rfl, ⟨nd, rfl⟩⟩))
            go_meet
            case rel => exact ⟨_, (false), (by first | rfl | (simp; done) | (simp [*]; done)), H', ⟨by first | omega | exact Nat.le_refl _⟩, ⟨by (with_reducible repeat (first | refine blk_drewN ?_ _ | refine blk_drew ?_ | refine blk_alloc ?_ _)); exact BK238.out⟩, ⟨by repeat (first | (with_reducible first | exact HB.out | apply below_alloc | apply pw_below_drewN | apply below_drew1 | refine below_set ?_ GE238.out) | exact HB.out)⟩⟩
      case rest =>
        clear HC6
        try clear c1
        try clear p2
        try clear c3
        try clear c3b0
        try clear c4
        try clear c4b0
        try clear p5
        try clear q5
        try clear hx5
        try clear c8
        try clear c8b0
        try clear c8b1
        try clear c10
        try clear c11
        try clear c11b0
        try clear c12
        try clear c12b0
        try clear p5
        try clear q5
        obtain ⟨kq, x38_5, rfl, HA, HJ5, BK238, HB⟩ := hcut
        cases kq with
        | zero => exact absurd HA.out (by simp [switchyardref07_token.j0])
        | succ kj5 =>
          have H := HA.out
          clear HA
          simp only [switchyardref07_token.j0] at H
          by_cases c13 : x38_5 = true
          · subst c13
            have H1 : (if (bt a0 a1) = 39 then (switchyardref07_token.j1 kj5 a0 a1 (wrap64 (a1 + 1)) 4) else (switchyardref07_token.j1 kj5 a0 a1 a1 1)) = some (r1, r2, r3, r4, r5) := by rw [if_pos rfl] at H; exact H
            clear H
            have H := H1
            clear H1
            have HC14 := Aside0.mk H
            clear H
            go_upto_if 41 with (fail)
            go_cut [7, 8] (fun v7 v8 wc => ∃ (kq : Nat) (x7_13 : Int) (x8_13 : Int), v7 = .int .i64 x7_13 ∧ v8 = .int .i64 x8_13 ∧ Aside0 (switchyardref07_token.j1 kq a0 a1 x7_13 x8_13 = some (r1, r2, r3, r4, r5)) ∧ Aside0 (kq ≤ kj5) ∧ Aside0 (wc.heap[gb238]? = some (.cells #[.int .i64 0, .string (⟨#[]⟩ : ByteArray), .int .i64 0, .int .i64 0] 32 (0, 0))) ∧ Aside0 (Below w.heap.size w wc))
            case first =>
              have H := HC14.out
              clear HC14
              by_cases c15 : (bt a0 a1) = 39
              · rw [if_pos c15] at H
                have c15b0 : ((bt a0 a1) == 39) = true := beq_iff_eq.mpr c15
                have c15b1 : ((bt a0 a1) != 39) = false := bne_eq_false_iff_eq.mpr c15
                clear c15
                (first | rw [c15b0] | (simp only [i64_w, i32_w]; rw [c15b0]) | skip)
                have H' := Aside0.mk H
                clear H
                go_wp2
                go_meet
                case rel => exact ⟨_, (wrap64 (a1 + 1)), (4), (by first | rfl | (simp; done) | (simp [*]; done)), (by first | rfl | (simp; done) | (simp [*]; done)), H', ⟨by have := HJ5.out; first | omega | exact Nat.le_refl _⟩, ⟨by (with_reducible repeat (first | refine blk_drewN ?_ _ | refine blk_drew ?_ | refine blk_alloc ?_ _)); exact BK238.out⟩, ⟨by repeat (first | (with_reducible first | exact HB.out | apply below_alloc | apply pw_below_drewN | apply below_drew1 | refine below_set ?_ GE238.out) | exact HB.out)⟩⟩
              · rw [if_neg c15] at H
                have c15b0 : ((bt a0 a1) == 39) = false := beq_eq_false_iff_ne.mpr c15
                have c15b1 : ((bt a0 a1) != 39) = true := bne_iff_ne.mpr c15
                (first | rw [c15b0] | (simp only [i64_w, i32_w]; rw [c15b0]) | skip)
                have H' := Aside0.mk H
                clear H
                go_wp2
                go_meet
                case rel => exact ⟨_, (a1), (1), (by first | rfl | (simp; done) | (simp [*]; done)), (by first | rfl | (simp; done) | (simp [*]; done)), H', ⟨by have := HJ5.out; first | omega | exact Nat.le_refl _⟩, ⟨by (with_reducible repeat (first | refine blk_drewN ?_ _ | refine blk_drew ?_ | refine blk_alloc ?_ _)); exact BK238.out⟩, ⟨by repeat (first | (with_reducible first | exact HB.out | apply below_alloc | apply pw_below_drewN | apply below_drew1 | refine below_set ?_ GE238.out) | exact HB.out)⟩⟩
            case rest =>
              clear HC14
              try clear c1
              try clear p2
              try clear c3
              try clear c3b0
              try clear c4
              try clear c4b0
              try clear p5
              try clear q5
              try clear hx5
              try clear p6
              try clear c8
              try clear c8b0
              try clear c8b1
              try clear c10
              try clear c11
              try clear c11b0
              try clear c12
              try clear c12b0
              try clear c13
              try clear c15
              try clear c15b0
              try clear c15b1
              try clear p2
              try clear p5
              try clear q5
              obtain ⟨kq, x7_13, x8_13, rfl, rfl, HA, HJ13, BK238, HB⟩ := hcut
              cases kq with
              | zero => exact absurd HA.out (by simp [switchyardref07_token.j1])
              | succ kj13 =>
                have H := HA.out
                clear HA
                simp only [switchyardref07_token.j1] at H
                have H' := Aside0.mk H
                clear H
                go_wp2
                go_loopg [9] kj13 (fun kq v9 w' => ∃ (x9_3 : Int), v9 = .int .i64 x9_3 ∧ Aside0 (switchyardref07_token.l0 kq a0 a1 x7_13 x8_13 x9_3 = some (r1, r2, r3, r4, r5)) ∧ Aside0 (kq ≤ kj13) ∧ Aside0 (w'.heap[gb238]? = some (.cells #[.int .i64 0, .string (⟨#[]⟩ : ByteArray), .int .i64 0, .int .i64 0] 32 (0, 0))) ∧ Aside0 (Below w.heap.size w w'))
                case atStart => exact ⟨(x7_13), (by first | rfl | (simp; done) | (simp [*]; done)), H', ⟨Nat.le_refl _⟩, ⟨by (with_reducible repeat (first | refine blk_drewN ?_ _ | refine blk_drew ?_ | refine blk_alloc ?_ _)); exact BK238.out⟩, ⟨by repeat (first | (with_reducible first | exact HB.out | apply below_alloc | apply pw_below_drewN | apply below_drew1 | refine below_set ?_ GE238.out) | exact HB.out)⟩⟩
                case round =>
                  clear H'
                  try clear c1
                  try clear p2
                  try clear c3
                  try clear c3b0
                  try clear c4
                  try clear c4b0
                  try clear p5
                  try clear q5
                  try clear hx5
                  try clear p6
                  try clear c8
                  try clear c8b0
                  try clear c8b1
                  try clear c10
                  try clear c11
                  try clear c11b0
                  try clear c12
                  try clear c12b0
                  try clear c13
                  try clear c15
                  try clear c15b0
                  try clear c15b1
                  try clear p2
                  try clear p5
                  try clear p6
                  try clear q5
                  obtain ⟨x9_3, rfl, HA, HK3, BK238, HB⟩ := hrel
                  cases gk with
                  | zero => exact absurd HA.out (by simp [switchyardref07_token.l0])
                  | succ k3 =>
                    have H := HA.out
                    clear HA
                    simp only [switchyardref07_token.l0] at H
                    by_cases c16 : x9_3 < (a0.size : Int)
                    · rw [if_pos c16] at H
                      have c16b0 : decide (x9_3 < (a0.size : Int)) = true := decide_eq_true c16
                      clear c16
                      by_cases c17 : 0 ≤ x9_3
                      · rw [if_pos c17] at H
                        have c17b0 : decide (0 ≤ x9_3) = true := decide_eq_true c17
                        clear c17
                        replace H := Option.bind_eq_some_iff.mp H
                        obtain ⟨t240, A190, H⟩ := H
                        replace H : (if t240 = true then (switchyardref07_token.l0 k3 a0 a1 x7_13 x8_13 (wrap64 (x9_3 + 1))) else (if 0 ≤ x7_13 then (if x7_13 ≤ x9_3 then (if x9_3 ≤ (a0.size : Int) then ((switchyardref06_Name.f k3 (a0.extract (x7_13 : Int).toNat (x9_3 : Int).toNat)).bind fun t241 => (if t241 = true then (some (x8_13, a0.extract (x7_13 : Int).toNat (x9_3 : Int).toNat, 0, a1, wrap64 (x9_3 - a1))) else (some (0, (⟨#[]⟩ : ByteArray), 0, 0, 0)))) else (none)) else (none)) else (none))) = some (r1, r2, r3, r4, r5) := H
                        have A19 := Aside0.mk A190
                        clear A190
                        by_cases c20 : t240 = true
                        · subst c20
                          have H1 : (switchyardref07_token.l0 k3 a0 a1 x7_13 x8_13 (wrap64 (x9_3 + 1))) = some (r1, r2, r3, r4, r5) := by rw [if_pos rfl] at H; exact H
                          clear H
                          have H := H1
                          clear H1
                          have H' := Aside0.mk H
                          clear H
                          have p18 : 0 ≤ (x9_3 : Int) := of_decide_eq_true (by first | (with_reducible assumption) | assumption)
                          have q18 : x9_3 < (a0.size : Int) := of_decide_eq_true (by first | (with_reducible assumption) | assumption)
                          have hx18 := bt_at a0 x9_3
                          replace p18 := eq_true p18
                          replace q18 := eq_true q18
                          go_wp2_with (first | (go_at_call 26; refine calls_of_args (args' := #[.int .u8 (bt a0 x9_3)]) (by first | rfl) ?_; (with_reducible refine (switchyardref07_word.calls (bt a0 x9_3) true _ A19.out).mono ?_); rintro e w' ⟨rfl, ⟨nd, rfl⟩⟩))
                          go_roundg k3
                          case measure => have := HJ5.out; have := HJ13.out; have := HK3.out; omega
                          case rel => exact ⟨(wrap64 (x9_3 + 1)), (by first | rfl | (simp; done) | (simp [*]; done)), H', ⟨by have := HJ5.out; have := HJ13.out; have := HK3.out; omega⟩, ⟨by (with_reducible repeat (first | refine blk_drewN ?_ _ | refine blk_drew ?_ | refine blk_alloc ?_ _)); exact BK238.out⟩, ⟨by repeat (first | (with_reducible first | exact HB.out | apply below_alloc | apply pw_below_drewN | apply below_drew1 | refine below_set ?_ GE238.out) | exact HB.out)⟩⟩
                        · replace c20 := Bool.eq_false_iff.mpr c20
                          subst c20
                          have H1 : (if 0 ≤ x7_13 then (if x7_13 ≤ x9_3 then (if x9_3 ≤ (a0.size : Int) then ((switchyardref06_Name.f k3 (a0.extract (x7_13 : Int).toNat (x9_3 : Int).toNat)).bind fun t241 => (if t241 = true then (some (x8_13, a0.extract (x7_13 : Int).toNat (x9_3 : Int).toNat, 0, a1, wrap64 (x9_3 - a1))) else (some (0, (⟨#[]⟩ : ByteArray), 0, 0, 0)))) else (none)) else (none)) else (none)) = some (r1, r2, r3, r4, r5) := by rw [if_neg (show ¬ (false = true) by decide)] at H; exact H
                          clear H
                          have H := H1
                          clear H1
                          by_cases c21 : 0 ≤ x7_13
                          · rw [if_pos c21] at H
                            have c21b0 := eq_true c21
                            have c21b1 : decide (0 ≤ x7_13) = true := decide_eq_true c21
                            clear c21
                            by_cases c22 : x7_13 ≤ x9_3
                            · rw [if_pos c22] at H
                              have c22b0 := eq_true c22
                              have c22b1 : decide (x7_13 ≤ x9_3) = true := decide_eq_true c22
                              clear c22
                              by_cases c23 : x9_3 ≤ (a0.size : Int)
                              · rw [if_pos c23] at H
                                have c23b0 := eq_true c23
                                have c23b1 : decide (x9_3 ≤ (a0.size : Int)) = true := decide_eq_true c23
                                clear c23
                                replace H := Option.bind_eq_some_iff.mp H
                                obtain ⟨t241, A240, H⟩ := H
                                replace H : (if t241 = true then (some (x8_13, a0.extract (x7_13 : Int).toNat (x9_3 : Int).toNat, 0, a1, wrap64 (x9_3 - a1))) else (some (0, (⟨#[]⟩ : ByteArray), 0, 0, 0))) = some (r1, r2, r3, r4, r5) := H
                                have A24 := Aside0.mk A240
                                clear A240
                                by_cases c25 : t241 = true
                                · subst c25
                                  have H1 : (some (x8_13, a0.extract (x7_13 : Int).toNat (x9_3 : Int).toNat, 0, a1, wrap64 (x9_3 - a1))) = some (r1, r2, r3, r4, r5) := by rw [if_pos rfl] at H; exact H
                                  clear H
                                  have H := H1
                                  clear H1
                                  have c26b0 := eq_true (of_decide_eq_true (by first | (with_reducible assumption) | assumption) : 0 ≤ x7_13)
                                  have c27b0 := eq_true (of_decide_eq_true (by first | (with_reducible assumption) | assumption) : x7_13 ≤ x9_3)
                                  have c28b0 := eq_true (of_decide_eq_true (by first | (with_reducible assumption) | assumption) : x9_3 ≤ (a0.size : Int))
                                  simp only [Option.some.injEq, Prod.mk.injEq] at H
                                  obtain ⟨rfl, rfl, rfl, rfl, rfl⟩ := H
                                  have p18 : 0 ≤ (x9_3 : Int) := of_decide_eq_true (by first | (with_reducible assumption) | assumption)
                                  have q18 : x9_3 < (a0.size : Int) := of_decide_eq_true (by first | (with_reducible assumption) | assumption)
                                  have hx18 := bt_at a0 x9_3
                                  replace p18 := eq_true p18
                                  replace q18 := eq_true q18
                                  go_wp2_with (first | (go_at_call 26; refine calls_of_args (args' := #[.int .u8 (bt a0 x9_3)]) (by first | rfl) ?_; (with_reducible refine (switchyardref07_word.calls (bt a0 x9_3) false _ A19.out).mono ?_); rintro e w' ⟨rfl, ⟨nd, rfl⟩⟩; (try (rw [drewN_self wr]; generalize hq_ : World.drewN wr _ = wr; have n0_ : Aside0 (wr.heap[gb238]? = some (.cells #[.int .i64 0, .string (⟨#[]⟩ : ByteArray), .int .i64 0, .int .i64 0] 32 (0, 0))) := ⟨by rw [← hq_]; exact (by (with_reducible repeat (first | refine blk_drewN ?_ _ | refine blk_drew ?_ | refine blk_alloc ?_ _)); exact BK238.out)⟩; have n1_ : Aside0 (Below w.heap.size w wr) := ⟨by rw [← hq_]; exact (by repeat (first | (with_reducible first | exact HB.out | apply below_alloc | apply pw_below_drewN | apply below_drew1 | refine below_set ?_ GE238.out) | exact HB.out))⟩; clear BK238 HB hq_; have BK238 := n0_; have HB := n1_; clear n0_ n1_))) | ((with_reducible refine gate_callee (f := 27) rfl ?_); refine goesL_ (some 61) rfl rfl Tryd.func27 (by kernel_rfl) rfl #[.string (a0.extract (x7_13 : Int).toNat (x9_3 : Int).toNat)] rfl (by (try simp only [List.map_toArray, List.map_cons, List.map_nil]); first | done | rfl | (simp only [List.length_drop, List.length_take]; rfl)) ?_; (with_reducible refine (switchyardref06_Name.calls k3 (a0.extract (x7_13 : Int).toNat (x9_3 : Int).toNat) true _ A24.out).mono ?_); rintro e w' ⟨rfl, ⟨nd, rfl⟩⟩; refine ⟨_, rfl, ?_⟩; (try (rw [drewN_self wr]; generalize hq_ : World.drewN wr _ = wr; have n0_ : Aside0 (wr.heap[gb238]? = some (.cells #[.int .i64 0, .string (⟨#[]⟩ : ByteArray), .int .i64 0, .int .i64 0] 32 (0, 0))) := ⟨by rw [← hq_]; exact (by (with_reducible repeat (first | refine blk_drewN ?_ _ | refine blk_drew ?_ | refine blk_alloc ?_ _)); exact BK238.out)⟩; have n1_ : Aside0 (Below w.heap.size w wr) := ⟨by rw [← hq_]; exact (by repeat (first | (with_reducible first | exact HB.out | apply below_alloc | apply pw_below_drewN | apply below_drew1 | refine below_set ?_ GE238.out) | exact HB.out))⟩; clear BK238 HB hq_; have BK238 := n0_; have HB := n1_; clear n0_ n1_)); have hcz29_0 : wr.cell? ⟨gb238, 0, none⟩ = some (.int .i64 0) := (blk_cell BK238.out 0).trans rfl; have hcz29_1 : wr.cell? ⟨gb238, 1, none⟩ = some (.string (⟨#[]⟩ : ByteArray)) := (blk_cell BK238.out 1).trans rfl; have hcz29_2 : wr.cell? ⟨gb238, 2, none⟩ = some (.int .i64 0) := (blk_cell BK238.out 2).trans rfl; have hcz29_3 : wr.cell? ⟨gb238, 3, none⟩ = some (.int .i64 0) := (blk_cell BK238.out 3).trans rfl; have hfz29_0 := blk_frozen BK238.out 0; have hfz29_1 := blk_frozen BK238.out 1; have hfz29_2 := blk_frozen BK238.out 2; have hfz29_3 := blk_frozen BK238.out 3))
                                  refine bodyPost_ret (results_ct rfl _ _ gb238 32 #[.int .i64 x8_13, .string (a0.extract (x7_13 : Int).toNat (x9_3 : Int).toNat), .int .i64 0, .int .i64 a1] (0, 0) _ rfl (by (with_reducible repeat (first | refine blk_drewN ?_ _ | refine blk_drew ?_ | refine blk_alloc ?_ _)); refine blk_put (cs := #[.int .i64 x8_13, .string (a0.extract (x7_13 : Int).toNat (x9_3 : Int).toNat), .int .i64 0, .int .i64 0]) ?_ 3 _ rfl; (with_reducible repeat (first | refine blk_drewN ?_ _ | refine blk_drew ?_ | refine blk_alloc ?_ _)); refine blk_put (cs := #[.int .i64 x8_13, .string (a0.extract (x7_13 : Int).toNat (x9_3 : Int).toNat), .int .i64 0, .int .i64 0]) ?_ 2 _ rfl; (with_reducible repeat (first | refine blk_drewN ?_ _ | refine blk_drew ?_ | refine blk_alloc ?_ _)); refine blk_put (cs := #[.int .i64 x8_13, .string (⟨#[]⟩ : ByteArray), .int .i64 0, .int .i64 0]) ?_ 1 _ rfl; (with_reducible repeat (first | refine blk_drewN ?_ _ | refine blk_drew ?_ | refine blk_alloc ?_ _)); refine blk_put (cs := #[.int .i64 0, .string (⟨#[]⟩ : ByteArray), .int .i64 0, .int .i64 0]) ?_ 0 _ rfl; (with_reducible repeat (first | refine blk_drewN ?_ _ | refine blk_drew ?_ | refine blk_alloc ?_ _)); exact BK238.out) Tryd.underlying32 rfl (by kernel_rfl)) rfl ?_
                                  exact ⟨by first | rfl | (simp [errW_none, errW_some] <;> rfl) | (simp [*, errW_none, errW_some] <;> rfl), by repeat (first | (with_reducible first | exact HB.out | apply below_alloc | apply pw_below_drewN | apply below_drew1 | refine below_set ?_ GE238.out) | exact HB.out)⟩
                                · replace c25 := Bool.eq_false_iff.mpr c25
                                  subst c25
                                  have H1 : (some (0, (⟨#[]⟩ : ByteArray), 0, 0, 0)) = some (r1, r2, r3, r4, r5) := by rw [if_neg (show ¬ (false = true) by decide)] at H; exact H
                                  clear H
                                  have H := H1
                                  clear H1
                                  simp only [Option.some.injEq, Prod.mk.injEq] at H
                                  obtain ⟨rfl, rfl, rfl, rfl, rfl⟩ := H
                                  have p18 : 0 ≤ (x9_3 : Int) := of_decide_eq_true (by first | (with_reducible assumption) | assumption)
                                  have q18 : x9_3 < (a0.size : Int) := of_decide_eq_true (by first | (with_reducible assumption) | assumption)
                                  have hx18 := bt_at a0 x9_3
                                  replace p18 := eq_true p18
                                  replace q18 := eq_true q18
                                  go_wp2_with (first | (go_at_call 26; refine calls_of_args (args' := #[.int .u8 (bt a0 x9_3)]) (by first | rfl) ?_; (with_reducible refine (switchyardref07_word.calls (bt a0 x9_3) false _ A19.out).mono ?_); rintro e w' ⟨rfl, ⟨nd, rfl⟩⟩; (try (rw [drewN_self wr]; generalize hq_ : World.drewN wr _ = wr; have n0_ : Aside0 (wr.heap[gb238]? = some (.cells #[.int .i64 0, .string (⟨#[]⟩ : ByteArray), .int .i64 0, .int .i64 0] 32 (0, 0))) := ⟨by rw [← hq_]; exact (by (with_reducible repeat (first | refine blk_drewN ?_ _ | refine blk_drew ?_ | refine blk_alloc ?_ _)); exact BK238.out)⟩; have n1_ : Aside0 (Below w.heap.size w wr) := ⟨by rw [← hq_]; exact (by repeat (first | (with_reducible first | exact HB.out | apply below_alloc | apply pw_below_drewN | apply below_drew1 | refine below_set ?_ GE238.out) | exact HB.out))⟩; clear BK238 HB hq_; have BK238 := n0_; have HB := n1_; clear n0_ n1_))) | ((with_reducible refine gate_callee (f := 27) rfl ?_); refine goesL_ (some 61) rfl rfl Tryd.func27 (by kernel_rfl) rfl #[.string (a0.extract (x7_13 : Int).toNat (x9_3 : Int).toNat)] rfl (by (try simp only [List.map_toArray, List.map_cons, List.map_nil]); first | done | rfl | (simp only [List.length_drop, List.length_take]; rfl)) ?_; (with_reducible refine (switchyardref06_Name.calls k3 (a0.extract (x7_13 : Int).toNat (x9_3 : Int).toNat) false _ A24.out).mono ?_); rintro e w' ⟨rfl, ⟨nd, rfl⟩⟩; refine ⟨_, rfl, ?_⟩; (try (rw [drewN_self wr]; generalize hq_ : World.drewN wr _ = wr; have n0_ : Aside0 (wr.heap[gb238]? = some (.cells #[.int .i64 0, .string (⟨#[]⟩ : ByteArray), .int .i64 0, .int .i64 0] 32 (0, 0))) := ⟨by rw [← hq_]; exact (by (with_reducible repeat (first | refine blk_drewN ?_ _ | refine blk_drew ?_ | refine blk_alloc ?_ _)); exact BK238.out)⟩; have n1_ : Aside0 (Below w.heap.size w wr) := ⟨by rw [← hq_]; exact (by repeat (first | (with_reducible first | exact HB.out | apply below_alloc | apply pw_below_drewN | apply below_drew1 | refine below_set ?_ GE238.out) | exact HB.out))⟩; clear BK238 HB hq_; have BK238 := n0_; have HB := n1_; clear n0_ n1_)); have hcz30_0 : wr.cell? ⟨gb238, 0, none⟩ = some (.int .i64 0) := (blk_cell BK238.out 0).trans rfl; have hcz30_1 : wr.cell? ⟨gb238, 1, none⟩ = some (.string (⟨#[]⟩ : ByteArray)) := (blk_cell BK238.out 1).trans rfl; have hcz30_2 : wr.cell? ⟨gb238, 2, none⟩ = some (.int .i64 0) := (blk_cell BK238.out 2).trans rfl; have hcz30_3 : wr.cell? ⟨gb238, 3, none⟩ = some (.int .i64 0) := (blk_cell BK238.out 3).trans rfl; have hfz30_0 := blk_frozen BK238.out 0; have hfz30_1 := blk_frozen BK238.out 1; have hfz30_2 := blk_frozen BK238.out 2; have hfz30_3 := blk_frozen BK238.out 3))
                                  refine bodyPost_ret (results_ct rfl _ _ gb238 32 #[.int .i64 0, .string (⟨#[]⟩ : ByteArray), .int .i64 0, .int .i64 0] (0, 0) _ rfl (by (with_reducible repeat (first | refine blk_drewN ?_ _ | refine blk_drew ?_ | refine blk_alloc ?_ _)); refine blk_put (cs := #[.int .i64 0, .string (⟨#[]⟩ : ByteArray), .int .i64 0, .int .i64 0]) ?_ 3 _ rfl; (with_reducible repeat (first | refine blk_drewN ?_ _ | refine blk_drew ?_ | refine blk_alloc ?_ _)); refine blk_put (cs := #[.int .i64 0, .string (⟨#[]⟩ : ByteArray), .int .i64 0, .int .i64 0]) ?_ 2 _ rfl; (with_reducible repeat (first | refine blk_drewN ?_ _ | refine blk_drew ?_ | refine blk_alloc ?_ _)); refine blk_put (cs := #[.int .i64 0, .string (⟨#[]⟩ : ByteArray), .int .i64 0, .int .i64 0]) ?_ 1 _ rfl; (with_reducible repeat (first | refine blk_drewN ?_ _ | refine blk_drew ?_ | refine blk_alloc ?_ _)); refine blk_put (cs := #[.int .i64 0, .string (⟨#[]⟩ : ByteArray), .int .i64 0, .int .i64 0]) ?_ 0 _ rfl; (with_reducible repeat (first | refine blk_drewN ?_ _ | refine blk_drew ?_ | refine blk_alloc ?_ _)); exact BK238.out) Tryd.underlying32 rfl (by kernel_rfl)) rfl ?_
                                  exact ⟨by first | rfl | (simp [errW_none, errW_some] <;> rfl) | (simp [*, errW_none, errW_some] <;> rfl), by repeat (first | (with_reducible first | exact HB.out | apply below_alloc | apply pw_below_drewN | apply below_drew1 | refine below_set ?_ GE238.out) | exact HB.out)⟩
                              · rw [if_neg c23] at H
                                exact absurd H (by simp)
                            · rw [if_neg c22] at H
                              exact absurd H (by simp)
                          · rw [if_neg c21] at H
                            exact absurd H (by simp)
                      · rw [if_neg c17] at H
                        exact absurd H (by simp)
                    · rw [if_neg c16] at H
                      have c16b0 : decide (x9_3 < (a0.size : Int)) = false := decide_eq_false c16
                      clear c16
                      by_cases c31 : 0 ≤ x7_13
                      · rw [if_pos c31] at H
                        have c31b0 := eq_true c31
                        have c31b1 : decide (0 ≤ x7_13) = true := decide_eq_true c31
                        clear c31
                        by_cases c32 : x7_13 ≤ x9_3
                        · rw [if_pos c32] at H
                          have c32b0 := eq_true c32
                          have c32b1 : decide (x7_13 ≤ x9_3) = true := decide_eq_true c32
                          clear c32
                          by_cases c33 : x9_3 ≤ (a0.size : Int)
                          · rw [if_pos c33] at H
                            have c33b0 := eq_true c33
                            have c33b1 : decide (x9_3 ≤ (a0.size : Int)) = true := decide_eq_true c33
                            clear c33
                            replace H := Option.bind_eq_some_iff.mp H
                            obtain ⟨t242, A340, H⟩ := H
                            replace H : (if t242 = true then (some (x8_13, a0.extract (x7_13 : Int).toNat (x9_3 : Int).toNat, 0, a1, wrap64 (x9_3 - a1))) else (some (0, (⟨#[]⟩ : ByteArray), 0, 0, 0))) = some (r1, r2, r3, r4, r5) := H
                            have A34 := Aside0.mk A340
                            clear A340
                            by_cases c35 : t242 = true
                            · subst c35
                              have H1 : (some (x8_13, a0.extract (x7_13 : Int).toNat (x9_3 : Int).toNat, 0, a1, wrap64 (x9_3 - a1))) = some (r1, r2, r3, r4, r5) := by rw [if_pos rfl] at H; exact H
                              clear H
                              have H := H1
                              clear H1
                              have c36b0 := eq_true (of_decide_eq_true (by first | (with_reducible assumption) | assumption) : 0 ≤ x7_13)
                              have c37b0 := eq_true (of_decide_eq_true (by first | (with_reducible assumption) | assumption) : x7_13 ≤ x9_3)
                              have c38b0 := eq_true (of_decide_eq_true (by first | (with_reducible assumption) | assumption) : x9_3 ≤ (a0.size : Int))
                              simp only [Option.some.injEq, Prod.mk.injEq] at H
                              obtain ⟨rfl, rfl, rfl, rfl, rfl⟩ := H
                              go_wp2_with (first | ((with_reducible refine gate_callee (f := 27) rfl ?_); refine goesL_ (some 61) rfl rfl Tryd.func27 (by kernel_rfl) rfl #[.string (a0.extract (x7_13 : Int).toNat (x9_3 : Int).toNat)] rfl (by (try simp only [List.map_toArray, List.map_cons, List.map_nil]); first | done | rfl | (simp only [List.length_drop, List.length_take]; rfl)) ?_; (with_reducible refine (switchyardref06_Name.calls k3 (a0.extract (x7_13 : Int).toNat (x9_3 : Int).toNat) true _ A34.out).mono ?_); rintro e w' ⟨rfl, ⟨nd, rfl⟩⟩; refine ⟨_, rfl, ?_⟩; (try (rw [drewN_self wr]; generalize hq_ : World.drewN wr _ = wr; have n0_ : Aside0 (wr.heap[gb238]? = some (.cells #[.int .i64 0, .string (⟨#[]⟩ : ByteArray), .int .i64 0, .int .i64 0] 32 (0, 0))) := ⟨by rw [← hq_]; exact (by (with_reducible repeat (first | refine blk_drewN ?_ _ | refine blk_drew ?_ | refine blk_alloc ?_ _)); exact BK238.out)⟩; have n1_ : Aside0 (Below w.heap.size w wr) := ⟨by rw [← hq_]; exact (by repeat (first | (with_reducible first | exact HB.out | apply below_alloc | apply pw_below_drewN | apply below_drew1 | refine below_set ?_ GE238.out) | exact HB.out))⟩; clear BK238 HB hq_; have BK238 := n0_; have HB := n1_; clear n0_ n1_)); have hcz39_0 : wr.cell? ⟨gb238, 0, none⟩ = some (.int .i64 0) := (blk_cell BK238.out 0).trans rfl; have hcz39_1 : wr.cell? ⟨gb238, 1, none⟩ = some (.string (⟨#[]⟩ : ByteArray)) := (blk_cell BK238.out 1).trans rfl; have hcz39_2 : wr.cell? ⟨gb238, 2, none⟩ = some (.int .i64 0) := (blk_cell BK238.out 2).trans rfl; have hcz39_3 : wr.cell? ⟨gb238, 3, none⟩ = some (.int .i64 0) := (blk_cell BK238.out 3).trans rfl; have hfz39_0 := blk_frozen BK238.out 0; have hfz39_1 := blk_frozen BK238.out 1; have hfz39_2 := blk_frozen BK238.out 2; have hfz39_3 := blk_frozen BK238.out 3))
                              refine bodyPost_ret (results_ct rfl _ _ gb238 32 #[.int .i64 x8_13, .string (a0.extract (x7_13 : Int).toNat (x9_3 : Int).toNat), .int .i64 0, .int .i64 a1] (0, 0) _ rfl (by (with_reducible repeat (first | refine blk_drewN ?_ _ | refine blk_drew ?_ | refine blk_alloc ?_ _)); refine blk_put (cs := #[.int .i64 x8_13, .string (a0.extract (x7_13 : Int).toNat (x9_3 : Int).toNat), .int .i64 0, .int .i64 0]) ?_ 3 _ rfl; (with_reducible repeat (first | refine blk_drewN ?_ _ | refine blk_drew ?_ | refine blk_alloc ?_ _)); refine blk_put (cs := #[.int .i64 x8_13, .string (a0.extract (x7_13 : Int).toNat (x9_3 : Int).toNat), .int .i64 0, .int .i64 0]) ?_ 2 _ rfl; (with_reducible repeat (first | refine blk_drewN ?_ _ | refine blk_drew ?_ | refine blk_alloc ?_ _)); refine blk_put (cs := #[.int .i64 x8_13, .string (⟨#[]⟩ : ByteArray), .int .i64 0, .int .i64 0]) ?_ 1 _ rfl; (with_reducible repeat (first | refine blk_drewN ?_ _ | refine blk_drew ?_ | refine blk_alloc ?_ _)); refine blk_put (cs := #[.int .i64 0, .string (⟨#[]⟩ : ByteArray), .int .i64 0, .int .i64 0]) ?_ 0 _ rfl; (with_reducible repeat (first | refine blk_drewN ?_ _ | refine blk_drew ?_ | refine blk_alloc ?_ _)); exact BK238.out) Tryd.underlying32 rfl (by kernel_rfl)) rfl ?_
                              exact ⟨by first | rfl | (simp [errW_none, errW_some] <;> rfl) | (simp [*, errW_none, errW_some] <;> rfl), by repeat (first | (with_reducible first | exact HB.out | apply below_alloc | apply pw_below_drewN | apply below_drew1 | refine below_set ?_ GE238.out) | exact HB.out)⟩
                            · replace c35 := Bool.eq_false_iff.mpr c35
                              subst c35
                              have H1 : (some (0, (⟨#[]⟩ : ByteArray), 0, 0, 0)) = some (r1, r2, r3, r4, r5) := by rw [if_neg (show ¬ (false = true) by decide)] at H; exact H
                              clear H
                              have H := H1
                              clear H1
                              simp only [Option.some.injEq, Prod.mk.injEq] at H
                              obtain ⟨rfl, rfl, rfl, rfl, rfl⟩ := H
                              go_wp2_with (first | ((with_reducible refine gate_callee (f := 27) rfl ?_); refine goesL_ (some 61) rfl rfl Tryd.func27 (by kernel_rfl) rfl #[.string (a0.extract (x7_13 : Int).toNat (x9_3 : Int).toNat)] rfl (by (try simp only [List.map_toArray, List.map_cons, List.map_nil]); first | done | rfl | (simp only [List.length_drop, List.length_take]; rfl)) ?_; (with_reducible refine (switchyardref06_Name.calls k3 (a0.extract (x7_13 : Int).toNat (x9_3 : Int).toNat) false _ A34.out).mono ?_); rintro e w' ⟨rfl, ⟨nd, rfl⟩⟩; refine ⟨_, rfl, ?_⟩; (try (rw [drewN_self wr]; generalize hq_ : World.drewN wr _ = wr; have n0_ : Aside0 (wr.heap[gb238]? = some (.cells #[.int .i64 0, .string (⟨#[]⟩ : ByteArray), .int .i64 0, .int .i64 0] 32 (0, 0))) := ⟨by rw [← hq_]; exact (by (with_reducible repeat (first | refine blk_drewN ?_ _ | refine blk_drew ?_ | refine blk_alloc ?_ _)); exact BK238.out)⟩; have n1_ : Aside0 (Below w.heap.size w wr) := ⟨by rw [← hq_]; exact (by repeat (first | (with_reducible first | exact HB.out | apply below_alloc | apply pw_below_drewN | apply below_drew1 | refine below_set ?_ GE238.out) | exact HB.out))⟩; clear BK238 HB hq_; have BK238 := n0_; have HB := n1_; clear n0_ n1_)); have hcz40_0 : wr.cell? ⟨gb238, 0, none⟩ = some (.int .i64 0) := (blk_cell BK238.out 0).trans rfl; have hcz40_1 : wr.cell? ⟨gb238, 1, none⟩ = some (.string (⟨#[]⟩ : ByteArray)) := (blk_cell BK238.out 1).trans rfl; have hcz40_2 : wr.cell? ⟨gb238, 2, none⟩ = some (.int .i64 0) := (blk_cell BK238.out 2).trans rfl; have hcz40_3 : wr.cell? ⟨gb238, 3, none⟩ = some (.int .i64 0) := (blk_cell BK238.out 3).trans rfl; have hfz40_0 := blk_frozen BK238.out 0; have hfz40_1 := blk_frozen BK238.out 1; have hfz40_2 := blk_frozen BK238.out 2; have hfz40_3 := blk_frozen BK238.out 3))
                              refine bodyPost_ret (results_ct rfl _ _ gb238 32 #[.int .i64 0, .string (⟨#[]⟩ : ByteArray), .int .i64 0, .int .i64 0] (0, 0) _ rfl (by (with_reducible repeat (first | refine blk_drewN ?_ _ | refine blk_drew ?_ | refine blk_alloc ?_ _)); refine blk_put (cs := #[.int .i64 0, .string (⟨#[]⟩ : ByteArray), .int .i64 0, .int .i64 0]) ?_ 3 _ rfl; (with_reducible repeat (first | refine blk_drewN ?_ _ | refine blk_drew ?_ | refine blk_alloc ?_ _)); refine blk_put (cs := #[.int .i64 0, .string (⟨#[]⟩ : ByteArray), .int .i64 0, .int .i64 0]) ?_ 2 _ rfl; (with_reducible repeat (first | refine blk_drewN ?_ _ | refine blk_drew ?_ | refine blk_alloc ?_ _)); refine blk_put (cs := #[.int .i64 0, .string (⟨#[]⟩ : ByteArray), .int .i64 0, .int .i64 0]) ?_ 1 _ rfl; (with_reducible repeat (first | refine blk_drewN ?_ _ | refine blk_drew ?_ | refine blk_alloc ?_ _)); refine blk_put (cs := #[.int .i64 0, .string (⟨#[]⟩ : ByteArray), .int .i64 0, .int .i64 0]) ?_ 0 _ rfl; (with_reducible repeat (first | refine blk_drewN ?_ _ | refine blk_drew ?_ | refine blk_alloc ?_ _)); exact BK238.out) Tryd.underlying32 rfl (by kernel_rfl)) rfl ?_
                              exact ⟨by first | rfl | (simp [errW_none, errW_some] <;> rfl) | (simp [*, errW_none, errW_some] <;> rfl), by repeat (first | (with_reducible first | exact HB.out | apply below_alloc | apply pw_below_drewN | apply below_drew1 | refine below_set ?_ GE238.out) | exact HB.out)⟩
                          · rw [if_neg c33] at H
                            exact absurd H (by simp)
                        · rw [if_neg c32] at H
                          exact absurd H (by simp)
                      · rw [if_neg c31] at H
                        exact absurd H (by simp)
          · replace c13 := Bool.eq_false_iff.mpr c13
            subst c13
            have H1 : (if (bt a0 a1) ≥ 48 then (switchyardref07_token.j3 kj5 a0 a1 (bt a0 a1) (decide ((bt a0 a1) ≤ 57))) else (switchyardref07_token.j3 kj5 a0 a1 (bt a0 a1) false)) = some (r1, r2, r3, r4, r5) := by rw [if_neg (show ¬ (false = true) by decide)] at H; exact H
            clear H
            have H := H1
            clear H1
            have HC41 := Aside0.mk H
            clear H
            go_upto_region 14 with (fail)
            go_cut [79] (fun v79 wc => ∃ (kq : Nat) (x79_40 : Bool), v79 = .bool x79_40 ∧ Aside0 (switchyardref07_token.j3 kq a0 a1 (bt a0 a1) x79_40 = some (r1, r2, r3, r4, r5)) ∧ Aside0 (kq ≤ kj5) ∧ Aside0 (wc.heap[gb238]? = some (.cells #[.int .i64 0, .string (⟨#[]⟩ : ByteArray), .int .i64 0, .int .i64 0] 32 (0, 0))) ∧ Aside0 (Below w.heap.size w wc))
            case first =>
              have H := HC41.out
              clear HC41
              by_cases c42 : (bt a0 a1) ≥ 48
              · rw [if_pos c42] at H
                have c42b0 : decide (48 ≤ (bt a0 a1)) = true := decide_eq_true c42
                clear c42
                (first | rw [c42b0] | (simp only [i64_w, i32_w]; rw [c42b0]) | skip)
                have H' := Aside0.mk H
                clear H
                go_wp2
                go_meet
                case rel => exact ⟨_, (decide ((bt a0 a1) ≤ 57)), (by first | rfl | (simp; done) | (simp [*]; done)), H', ⟨by have := HJ5.out; first | omega | exact Nat.le_refl _⟩, ⟨by (with_reducible repeat (first | refine blk_drewN ?_ _ | refine blk_drew ?_ | refine blk_alloc ?_ _)); exact BK238.out⟩, ⟨by repeat (first | (with_reducible first | exact HB.out | apply below_alloc | apply pw_below_drewN | apply below_drew1 | refine below_set ?_ GE238.out) | exact HB.out)⟩⟩
              · rw [if_neg c42] at H
                have c42b0 : decide (48 ≤ (bt a0 a1)) = false := decide_eq_false c42
                clear c42
                (first | rw [c42b0] | (simp only [i64_w, i32_w]; rw [c42b0]) | skip)
                have H' := Aside0.mk H
                clear H
                go_wp2
                go_meet
                case rel => exact ⟨_, (false), (by first | rfl | (simp; done) | (simp [*]; done)), H', ⟨by have := HJ5.out; first | omega | exact Nat.le_refl _⟩, ⟨by (with_reducible repeat (first | refine blk_drewN ?_ _ | refine blk_drew ?_ | refine blk_alloc ?_ _)); exact BK238.out⟩, ⟨by repeat (first | (with_reducible first | exact HB.out | apply below_alloc | apply pw_below_drewN | apply below_drew1 | refine below_set ?_ GE238.out) | exact HB.out)⟩⟩
            case rest =>
              clear HC41
              try clear c1
              try clear p1
              try clear q1
              try clear hx1
              try clear c2
              try clear p2
              try clear c3
              try clear c3b0
              try clear c4
              try clear c4b0
              try clear p5
              try clear q5
              try clear hx5
              try clear p6
              try clear c8
              try clear c8b0
              try clear c8b1
              try clear c10
              try clear c11
              try clear c11b0
              try clear c12
              try clear c12b0
              try clear c13
              try clear c15
              try clear c15b0
              try clear c15b1
              try clear c16
              try clear c16b0
              try clear c17
              try clear c17b0
              try clear p18
              try clear q18
              try clear hx18
              try clear c20
              try clear c21
              try clear c21b0
              try clear c21b1
              try clear c22
              try clear c22b0
              try clear c22b1
              try clear c23
              try clear c23b0
              try clear c23b1
              try clear c25
              try clear c26
              try clear c26b0
              try clear c27
              try clear c27b0
              try clear c28
              try clear c28b0
              try clear c31
              try clear c31b0
              try clear c31b1
              try clear c32
              try clear c32b0
              try clear c32b1
              try clear c33
              try clear c33b0
              try clear c33b1
              try clear c35
              try clear c36
              try clear c36b0
              try clear c37
              try clear c37b0
              try clear c38
              try clear c38b0
              try clear c42
              try clear c42b0
              try clear hcz29_0
              try clear hcz29_1
              try clear hcz29_2
              try clear hcz29_3
              try clear hcz30_0
              try clear hcz30_1
              try clear hcz30_2
              try clear hcz30_3
              try clear hcz39_0
              try clear hcz39_1
              try clear hcz39_2
              try clear hcz39_3
              try clear hcz40_0
              try clear hcz40_1
              try clear hcz40_2
              try clear hcz40_3
              try clear hfz29_0
              try clear hfz29_1
              try clear hfz29_2
              try clear hfz29_3
              try clear hfz30_0
              try clear hfz30_1
              try clear hfz30_2
              try clear hfz30_3
              try clear hfz39_0
              try clear hfz39_1
              try clear hfz39_2
              try clear hfz39_3
              try clear hfz40_0
              try clear hfz40_1
              try clear hfz40_2
              try clear hfz40_3
              try clear p18
              try clear p2
              try clear p5
              try clear p6
              try clear q18
              try clear q5
              obtain ⟨kq, x79_40, rfl, HA, HJ40, BK238, HB⟩ := hcut
              cases kq with
              | zero => exact absurd HA.out (by simp [switchyardref07_token.j3])
              | succ kj40 =>
                have H := HA.out
                clear HA
                simp only [switchyardref07_token.j3] at H
                by_cases c43 : x79_40 = true
                · subst c43
                  have H1 : (switchyardref07_token.l1 kj40 a0 a1 a1) = some (r1, r2, r3, r4, r5) := by rw [if_pos rfl] at H; exact H
                  clear H
                  have H := H1
                  clear H1
                  have H' := Aside0.mk H
                  clear H
                  go_wp2
                  go_loopg [10] kj40 (fun kq v10 w' => ∃ (x10_3 : Int), v10 = .int .i64 x10_3 ∧ Aside0 (switchyardref07_token.l1 kq a0 a1 x10_3 = some (r1, r2, r3, r4, r5)) ∧ Aside0 (kq ≤ kj40) ∧ Aside0 (w'.heap[gb238]? = some (.cells #[.int .i64 0, .string (⟨#[]⟩ : ByteArray), .int .i64 0, .int .i64 0] 32 (0, 0))) ∧ Aside0 (Below w.heap.size w w'))
                  case atStart => exact ⟨(a1), (by first | rfl | (simp; done) | (simp [*]; done)), H', ⟨Nat.le_refl _⟩, ⟨by (with_reducible repeat (first | refine blk_drewN ?_ _ | refine blk_drew ?_ | refine blk_alloc ?_ _)); exact BK238.out⟩, ⟨by repeat (first | (with_reducible first | exact HB.out | apply below_alloc | apply pw_below_drewN | apply below_drew1 | refine below_set ?_ GE238.out) | exact HB.out)⟩⟩
                  case round =>
                    clear H'
                    try clear c1
                    try clear p1
                    try clear q1
                    try clear hx1
                    try clear c2
                    try clear p2
                    try clear c3
                    try clear c3b0
                    try clear c4
                    try clear c4b0
                    try clear p5
                    try clear q5
                    try clear hx5
                    try clear p6
                    try clear c8
                    try clear c8b0
                    try clear c8b1
                    try clear c10
                    try clear c11
                    try clear c11b0
                    try clear c12
                    try clear c12b0
                    try clear c13
                    try clear c15
                    try clear c15b0
                    try clear c15b1
                    try clear c16
                    try clear c16b0
                    try clear c17
                    try clear c17b0
                    try clear p18
                    try clear q18
                    try clear hx18
                    try clear c20
                    try clear c21
                    try clear c21b0
                    try clear c21b1
                    try clear c22
                    try clear c22b0
                    try clear c22b1
                    try clear c23
                    try clear c23b0
                    try clear c23b1
                    try clear c25
                    try clear c26
                    try clear c26b0
                    try clear c27
                    try clear c27b0
                    try clear c28
                    try clear c28b0
                    try clear c31
                    try clear c31b0
                    try clear c31b1
                    try clear c32
                    try clear c32b0
                    try clear c32b1
                    try clear c33
                    try clear c33b0
                    try clear c33b1
                    try clear c35
                    try clear c36
                    try clear c36b0
                    try clear c37
                    try clear c37b0
                    try clear c38
                    try clear c38b0
                    try clear c42
                    try clear c42b0
                    try clear c43
                    try clear hcz29_0
                    try clear hcz29_1
                    try clear hcz29_2
                    try clear hcz29_3
                    try clear hcz30_0
                    try clear hcz30_1
                    try clear hcz30_2
                    try clear hcz30_3
                    try clear hcz39_0
                    try clear hcz39_1
                    try clear hcz39_2
                    try clear hcz39_3
                    try clear hcz40_0
                    try clear hcz40_1
                    try clear hcz40_2
                    try clear hcz40_3
                    try clear hfz29_0
                    try clear hfz29_1
                    try clear hfz29_2
                    try clear hfz29_3
                    try clear hfz30_0
                    try clear hfz30_1
                    try clear hfz30_2
                    try clear hfz30_3
                    try clear hfz39_0
                    try clear hfz39_1
                    try clear hfz39_2
                    try clear hfz39_3
                    try clear hfz40_0
                    try clear hfz40_1
                    try clear hfz40_2
                    try clear hfz40_3
                    try clear p1
                    try clear p18
                    try clear p2
                    try clear p5
                    try clear p6
                    try clear q1
                    try clear q18
                    try clear q5
                    obtain ⟨x10_3, rfl, HA, HK3, BK238, HB⟩ := hrel
                    cases gk with
                    | zero => exact absurd HA.out (by simp [switchyardref07_token.l1])
                    | succ k3 =>
                      have H := HA.out
                      clear HA
                      simp only [switchyardref07_token.l1] at H
                      by_cases c44 : x10_3 < (a0.size : Int)
                      · rw [if_pos c44] at H
                        have c44b0 : decide (x10_3 < (a0.size : Int)) = true := decide_eq_true c44
                        clear c44
                        by_cases c45 : 0 ≤ x10_3
                        · rw [if_pos c45] at H
                          have c45b0 : decide (0 ≤ x10_3) = true := decide_eq_true c45
                          clear c45
                          by_cases c47 : (bt a0 x10_3) ≥ 48
                          · rw [if_pos c47] at H
                            have c47b0 : decide (48 ≤ (bt a0 x10_3)) = true := decide_eq_true c47
                            clear c47
                            by_cases c49 : (bt a0 x10_3) ≤ 57
                            · rw [if_pos c49] at H
                              have c49b0 : decide ((bt a0 x10_3) ≤ 57) = true := decide_eq_true c49
                              clear c49
                              have H' := Aside0.mk H
                              clear H
                              have p46 : 0 ≤ (x10_3 : Int) := of_decide_eq_true (by first | (with_reducible assumption) | assumption)
                              have q46 : x10_3 < (a0.size : Int) := of_decide_eq_true (by first | (with_reducible assumption) | assumption)
                              have hx46 := bt_at a0 x10_3
                              replace p46 := eq_true p46
                              replace q46 := eq_true q46
                              have p48 : 0 ≤ (x10_3 : Int) := of_decide_eq_true (by first | (with_reducible assumption) | assumption)
                              have q48 : x10_3 < (a0.size : Int) := of_decide_eq_true (by first | (with_reducible assumption) | assumption)
                              have hx48 := bt_at a0 x10_3
                              replace p48 := eq_true p48
                              replace q48 := eq_true q48
                              go_wp2
                              go_roundg k3
                              case measure => have := HJ5.out; have := HJ40.out; have := HK3.out; omega
                              case rel => exact ⟨(wrap64 (x10_3 + 1)), (by first | rfl | (simp; done) | (simp [*]; done)), H', ⟨by have := HJ5.out; have := HJ40.out; have := HK3.out; omega⟩, ⟨by (with_reducible repeat (first | refine blk_drewN ?_ _ | refine blk_drew ?_ | refine blk_alloc ?_ _)); exact BK238.out⟩, ⟨by repeat (first | (with_reducible first | exact HB.out | apply below_alloc | apply pw_below_drewN | apply below_drew1 | refine below_set ?_ GE238.out) | exact HB.out)⟩⟩
                            · rw [if_neg c49] at H
                              have c49b0 : decide ((bt a0 x10_3) ≤ 57) = false := decide_eq_false c49
                              clear c49
                              by_cases c50 : 0 ≤ a1
                              · rw [if_pos c50] at H
                                have c50b0 := eq_true c50
                                have c50b1 : decide (0 ≤ a1) = true := decide_eq_true c50
                                clear c50
                                by_cases c51 : a1 ≤ x10_3
                                · rw [if_pos c51] at H
                                  have c51b0 := eq_true c51
                                  have c51b1 : decide (a1 ≤ x10_3) = true := decide_eq_true c51
                                  clear c51
                                  by_cases c52 : x10_3 ≤ (a0.size : Int)
                                  · rw [if_pos c52] at H
                                    have c52b0 := eq_true c52
                                    have c52b1 : decide (x10_3 ≤ (a0.size : Int)) = true := decide_eq_true c52
                                    clear c52
                                    replace H := Option.bind_eq_some_iff.mp H
                                    obtain ⟨⟨t243, t244⟩, A530, H⟩ := H
                                    replace H : (if t244 = true then (some (2, a0.extract (a1 : Int).toNat (x10_3 : Int).toNat, t243, a1, wrap64 (x10_3 - a1))) else (some (0, (⟨#[]⟩ : ByteArray), 0, 0, 0))) = some (r1, r2, r3, r4, r5) := H
                                    have A53 := Aside0.mk A530
                                    clear A530
                                    by_cases c54 : t244 = true
                                    · subst c54
                                      have H1 : (some (2, a0.extract (a1 : Int).toNat (x10_3 : Int).toNat, t243, a1, wrap64 (x10_3 - a1))) = some (r1, r2, r3, r4, r5) := by rw [if_pos rfl] at H; exact H
                                      clear H
                                      have H := H1
                                      clear H1
                                      have c55b0 := eq_true (of_decide_eq_true (by first | (with_reducible assumption) | assumption) : 0 ≤ a1)
                                      have c56b0 := eq_true (of_decide_eq_true (by first | (with_reducible assumption) | assumption) : a1 ≤ x10_3)
                                      have c57b0 := eq_true (of_decide_eq_true (by first | (with_reducible assumption) | assumption) : x10_3 ≤ (a0.size : Int))
                                      simp only [Option.some.injEq, Prod.mk.injEq] at H
                                      obtain ⟨rfl, rfl, rfl, rfl, rfl⟩ := H
                                      have p46 : 0 ≤ (x10_3 : Int) := of_decide_eq_true (by first | (with_reducible assumption) | assumption)
                                      have q46 : x10_3 < (a0.size : Int) := of_decide_eq_true (by first | (with_reducible assumption) | assumption)
                                      have hx46 := bt_at a0 x10_3
                                      replace p46 := eq_true p46
                                      replace q46 := eq_true q46
                                      have p48 : 0 ≤ (x10_3 : Int) := of_decide_eq_true (by first | (with_reducible assumption) | assumption)
                                      have q48 : x10_3 < (a0.size : Int) := of_decide_eq_true (by first | (with_reducible assumption) | assumption)
                                      have hx48 := bt_at a0 x10_3
                                      replace p48 := eq_true p48
                                      replace q48 := eq_true q48
                                      go_wp2_with (first | ((with_reducible refine gate_callee (f := 28) rfl ?_); refine goesL_ (some 104) rfl rfl Tryd.func28 (by kernel_rfl) rfl #[.string (a0.extract (a1 : Int).toNat (x10_3 : Int).toNat)] rfl (by (try simp only [List.map_toArray, List.map_cons, List.map_nil]); first | done | rfl | (simp only [List.length_drop, List.length_take]; rfl)) ?_; (with_reducible refine (switchyardref07_digits.calls k3 (a0.extract (a1 : Int).toNat (x10_3 : Int).toNat) t243 true _ A53.out).mono ?_); rintro e w' ⟨rfl, ⟨nd, rfl⟩⟩; refine ⟨_, rfl, ?_⟩; (try (rw [drewN_self wr]; generalize hq_ : World.drewN wr _ = wr; have n0_ : Aside0 (wr.heap[gb238]? = some (.cells #[.int .i64 0, .string (⟨#[]⟩ : ByteArray), .int .i64 0, .int .i64 0] 32 (0, 0))) := ⟨by rw [← hq_]; exact (by (with_reducible repeat (first | refine blk_drewN ?_ _ | refine blk_drew ?_ | refine blk_alloc ?_ _)); exact BK238.out)⟩; have n1_ : Aside0 (Below w.heap.size w wr) := ⟨by rw [← hq_]; exact (by repeat (first | (with_reducible first | exact HB.out | apply below_alloc | apply pw_below_drewN | apply below_drew1 | refine below_set ?_ GE238.out) | exact HB.out))⟩; clear BK238 HB hq_; have BK238 := n0_; have HB := n1_; clear n0_ n1_)); have hcz58_0 : wr.cell? ⟨gb238, 0, none⟩ = some (.int .i64 0) := (blk_cell BK238.out 0).trans rfl; have hcz58_1 : wr.cell? ⟨gb238, 1, none⟩ = some (.string (⟨#[]⟩ : ByteArray)) := (blk_cell BK238.out 1).trans rfl; have hcz58_2 : wr.cell? ⟨gb238, 2, none⟩ = some (.int .i64 0) := (blk_cell BK238.out 2).trans rfl; have hcz58_3 : wr.cell? ⟨gb238, 3, none⟩ = some (.int .i64 0) := (blk_cell BK238.out 3).trans rfl; have hfz58_0 := blk_frozen BK238.out 0; have hfz58_1 := blk_frozen BK238.out 1; have hfz58_2 := blk_frozen BK238.out 2; have hfz58_3 := blk_frozen BK238.out 3))
                                      refine bodyPost_ret (results_ct rfl _ _ gb238 32 #[.int .i64 2, .string (a0.extract (a1 : Int).toNat (x10_3 : Int).toNat), .int .i64 t243, .int .i64 a1] (0, 0) _ rfl (by (with_reducible repeat (first | refine blk_drewN ?_ _ | refine blk_drew ?_ | refine blk_alloc ?_ _)); refine blk_put (cs := #[.int .i64 2, .string (a0.extract (a1 : Int).toNat (x10_3 : Int).toNat), .int .i64 t243, .int .i64 0]) ?_ 3 _ rfl; (with_reducible repeat (first | refine blk_drewN ?_ _ | refine blk_drew ?_ | refine blk_alloc ?_ _)); refine blk_put (cs := #[.int .i64 2, .string (a0.extract (a1 : Int).toNat (x10_3 : Int).toNat), .int .i64 0, .int .i64 0]) ?_ 2 _ rfl; (with_reducible repeat (first | refine blk_drewN ?_ _ | refine blk_drew ?_ | refine blk_alloc ?_ _)); refine blk_put (cs := #[.int .i64 2, .string (⟨#[]⟩ : ByteArray), .int .i64 0, .int .i64 0]) ?_ 1 _ rfl; (with_reducible repeat (first | refine blk_drewN ?_ _ | refine blk_drew ?_ | refine blk_alloc ?_ _)); refine blk_put (cs := #[.int .i64 0, .string (⟨#[]⟩ : ByteArray), .int .i64 0, .int .i64 0]) ?_ 0 _ rfl; (with_reducible repeat (first | refine blk_drewN ?_ _ | refine blk_drew ?_ | refine blk_alloc ?_ _)); exact BK238.out) Tryd.underlying32 rfl (by kernel_rfl)) rfl ?_
                                      exact ⟨by first | rfl | (simp [errW_none, errW_some] <;> rfl) | (simp [*, errW_none, errW_some] <;> rfl), by repeat (first | (with_reducible first | exact HB.out | apply below_alloc | apply pw_below_drewN | apply below_drew1 | refine below_set ?_ GE238.out) | exact HB.out)⟩
                                    · replace c54 := Bool.eq_false_iff.mpr c54
                                      subst c54
                                      have H1 : (some (0, (⟨#[]⟩ : ByteArray), 0, 0, 0)) = some (r1, r2, r3, r4, r5) := by rw [if_neg (show ¬ (false = true) by decide)] at H; exact H
                                      clear H
                                      have H := H1
                                      clear H1
                                      simp only [Option.some.injEq, Prod.mk.injEq] at H
                                      obtain ⟨rfl, rfl, rfl, rfl, rfl⟩ := H
                                      have p46 : 0 ≤ (x10_3 : Int) := of_decide_eq_true (by first | (with_reducible assumption) | assumption)
                                      have q46 : x10_3 < (a0.size : Int) := of_decide_eq_true (by first | (with_reducible assumption) | assumption)
                                      have hx46 := bt_at a0 x10_3
                                      replace p46 := eq_true p46
                                      replace q46 := eq_true q46
                                      have p48 : 0 ≤ (x10_3 : Int) := of_decide_eq_true (by first | (with_reducible assumption) | assumption)
                                      have q48 : x10_3 < (a0.size : Int) := of_decide_eq_true (by first | (with_reducible assumption) | assumption)
                                      have hx48 := bt_at a0 x10_3
                                      replace p48 := eq_true p48
                                      replace q48 := eq_true q48
                                      go_wp2_with (first | ((with_reducible refine gate_callee (f := 28) rfl ?_); refine goesL_ (some 104) rfl rfl Tryd.func28 (by kernel_rfl) rfl #[.string (a0.extract (a1 : Int).toNat (x10_3 : Int).toNat)] rfl (by (try simp only [List.map_toArray, List.map_cons, List.map_nil]); first | done | rfl | (simp only [List.length_drop, List.length_take]; rfl)) ?_; (with_reducible refine (switchyardref07_digits.calls k3 (a0.extract (a1 : Int).toNat (x10_3 : Int).toNat) t243 false _ A53.out).mono ?_); rintro e w' ⟨rfl, ⟨nd, rfl⟩⟩; refine ⟨_, rfl, ?_⟩; (try (rw [drewN_self wr]; generalize hq_ : World.drewN wr _ = wr; have n0_ : Aside0 (wr.heap[gb238]? = some (.cells #[.int .i64 0, .string (⟨#[]⟩ : ByteArray), .int .i64 0, .int .i64 0] 32 (0, 0))) := ⟨by rw [← hq_]; exact (by (with_reducible repeat (first | refine blk_drewN ?_ _ | refine blk_drew ?_ | refine blk_alloc ?_ _)); exact BK238.out)⟩; have n1_ : Aside0 (Below w.heap.size w wr) := ⟨by rw [← hq_]; exact (by repeat (first | (with_reducible first | exact HB.out | apply below_alloc | apply pw_below_drewN | apply below_drew1 | refine below_set ?_ GE238.out) | exact HB.out))⟩; clear BK238 HB hq_; have BK238 := n0_; have HB := n1_; clear n0_ n1_)); have hcz59_0 : wr.cell? ⟨gb238, 0, none⟩ = some (.int .i64 0) := (blk_cell BK238.out 0).trans rfl; have hcz59_1 : wr.cell? ⟨gb238, 1, none⟩ = some (.string (⟨#[]⟩ : ByteArray)) := (blk_cell BK238.out 1).trans rfl; have hcz59_2 : wr.cell? ⟨gb238, 2, none⟩ = some (.int .i64 0) := (blk_cell BK238.out 2).trans rfl; have hcz59_3 : wr.cell? ⟨gb238, 3, none⟩ = some (.int .i64 0) := (blk_cell BK238.out 3).trans rfl; have hfz59_0 := blk_frozen BK238.out 0; have hfz59_1 := blk_frozen BK238.out 1; have hfz59_2 := blk_frozen BK238.out 2; have hfz59_3 := blk_frozen BK238.out 3))
                                      refine bodyPost_ret (results_ct rfl _ _ gb238 32 #[.int .i64 0, .string (⟨#[]⟩ : ByteArray), .int .i64 0, .int .i64 0] (0, 0) _ rfl (by (with_reducible repeat (first | refine blk_drewN ?_ _ | refine blk_drew ?_ | refine blk_alloc ?_ _)); refine blk_put (cs := #[.int .i64 0, .string (⟨#[]⟩ : ByteArray), .int .i64 0, .int .i64 0]) ?_ 3 _ rfl; (with_reducible repeat (first | refine blk_drewN ?_ _ | refine blk_drew ?_ | refine blk_alloc ?_ _)); refine blk_put (cs := #[.int .i64 0, .string (⟨#[]⟩ : ByteArray), .int .i64 0, .int .i64 0]) ?_ 2 _ rfl; (with_reducible repeat (first | refine blk_drewN ?_ _ | refine blk_drew ?_ | refine blk_alloc ?_ _)); refine blk_put (cs := #[.int .i64 0, .string (⟨#[]⟩ : ByteArray), .int .i64 0, .int .i64 0]) ?_ 1 _ rfl; (with_reducible repeat (first | refine blk_drewN ?_ _ | refine blk_drew ?_ | refine blk_alloc ?_ _)); refine blk_put (cs := #[.int .i64 0, .string (⟨#[]⟩ : ByteArray), .int .i64 0, .int .i64 0]) ?_ 0 _ rfl; (with_reducible repeat (first | refine blk_drewN ?_ _ | refine blk_drew ?_ | refine blk_alloc ?_ _)); exact BK238.out) Tryd.underlying32 rfl (by kernel_rfl)) rfl ?_
                                      exact ⟨by first | rfl | (simp [errW_none, errW_some] <;> rfl) | (simp [*, errW_none, errW_some] <;> rfl), by repeat (first | (with_reducible first | exact HB.out | apply below_alloc | apply pw_below_drewN | apply below_drew1 | refine below_set ?_ GE238.out) | exact HB.out)⟩
                                  · rw [if_neg c52] at H
                                    exact absurd H (by simp)
                                · rw [if_neg c51] at H
                                  exact absurd H (by simp)
                              · rw [if_neg c50] at H
                                exact absurd H (by simp)
                          · rw [if_neg c47] at H
                            have c47b0 : decide (48 ≤ (bt a0 x10_3)) = false := decide_eq_false c47
                            clear c47
                            by_cases c60 : 0 ≤ a1
                            · rw [if_pos c60] at H
                              have c60b0 := eq_true c60
                              have c60b1 : decide (0 ≤ a1) = true := decide_eq_true c60
                              clear c60
                              by_cases c61 : a1 ≤ x10_3
                              · rw [if_pos c61] at H
                                have c61b0 := eq_true c61
                                have c61b1 : decide (a1 ≤ x10_3) = true := decide_eq_true c61
                                clear c61
                                by_cases c62 : x10_3 ≤ (a0.size : Int)
                                · rw [if_pos c62] at H
                                  have c62b0 := eq_true c62
                                  have c62b1 : decide (x10_3 ≤ (a0.size : Int)) = true := decide_eq_true c62
                                  clear c62
                                  replace H := Option.bind_eq_some_iff.mp H
                                  obtain ⟨⟨t245, t246⟩, A630, H⟩ := H
                                  replace H : (if t246 = true then (some (2, a0.extract (a1 : Int).toNat (x10_3 : Int).toNat, t245, a1, wrap64 (x10_3 - a1))) else (some (0, (⟨#[]⟩ : ByteArray), 0, 0, 0))) = some (r1, r2, r3, r4, r5) := H
                                  have A63 := Aside0.mk A630
                                  clear A630
                                  by_cases c64 : t246 = true
                                  · subst c64
                                    have H1 : (some (2, a0.extract (a1 : Int).toNat (x10_3 : Int).toNat, t245, a1, wrap64 (x10_3 - a1))) = some (r1, r2, r3, r4, r5) := by rw [if_pos rfl] at H; exact H
                                    clear H
                                    have H := H1
                                    clear H1
                                    have c65b0 := eq_true (of_decide_eq_true (by first | (with_reducible assumption) | assumption) : 0 ≤ a1)
                                    have c66b0 := eq_true (of_decide_eq_true (by first | (with_reducible assumption) | assumption) : a1 ≤ x10_3)
                                    have c67b0 := eq_true (of_decide_eq_true (by first | (with_reducible assumption) | assumption) : x10_3 ≤ (a0.size : Int))
                                    simp only [Option.some.injEq, Prod.mk.injEq] at H
                                    obtain ⟨rfl, rfl, rfl, rfl, rfl⟩ := H
                                    have p46 : 0 ≤ (x10_3 : Int) := of_decide_eq_true (by first | (with_reducible assumption) | assumption)
                                    have q46 : x10_3 < (a0.size : Int) := of_decide_eq_true (by first | (with_reducible assumption) | assumption)
                                    have hx46 := bt_at a0 x10_3
                                    replace p46 := eq_true p46
                                    replace q46 := eq_true q46
                                    go_wp2_with (first | ((with_reducible refine gate_callee (f := 28) rfl ?_); refine goesL_ (some 104) rfl rfl Tryd.func28 (by kernel_rfl) rfl #[.string (a0.extract (a1 : Int).toNat (x10_3 : Int).toNat)] rfl (by (try simp only [List.map_toArray, List.map_cons, List.map_nil]); first | done | rfl | (simp only [List.length_drop, List.length_take]; rfl)) ?_; (with_reducible refine (switchyardref07_digits.calls k3 (a0.extract (a1 : Int).toNat (x10_3 : Int).toNat) t245 true _ A63.out).mono ?_); rintro e w' ⟨rfl, ⟨nd, rfl⟩⟩; refine ⟨_, rfl, ?_⟩; (try (rw [drewN_self wr]; generalize hq_ : World.drewN wr _ = wr; have n0_ : Aside0 (wr.heap[gb238]? = some (.cells #[.int .i64 0, .string (⟨#[]⟩ : ByteArray), .int .i64 0, .int .i64 0] 32 (0, 0))) := ⟨by rw [← hq_]; exact (by (with_reducible repeat (first | refine blk_drewN ?_ _ | refine blk_drew ?_ | refine blk_alloc ?_ _)); exact BK238.out)⟩; have n1_ : Aside0 (Below w.heap.size w wr) := ⟨by rw [← hq_]; exact (by repeat (first | (with_reducible first | exact HB.out | apply below_alloc | apply pw_below_drewN | apply below_drew1 | refine below_set ?_ GE238.out) | exact HB.out))⟩; clear BK238 HB hq_; have BK238 := n0_; have HB := n1_; clear n0_ n1_)); have hcz68_0 : wr.cell? ⟨gb238, 0, none⟩ = some (.int .i64 0) := (blk_cell BK238.out 0).trans rfl; have hcz68_1 : wr.cell? ⟨gb238, 1, none⟩ = some (.string (⟨#[]⟩ : ByteArray)) := (blk_cell BK238.out 1).trans rfl; have hcz68_2 : wr.cell? ⟨gb238, 2, none⟩ = some (.int .i64 0) := (blk_cell BK238.out 2).trans rfl; have hcz68_3 : wr.cell? ⟨gb238, 3, none⟩ = some (.int .i64 0) := (blk_cell BK238.out 3).trans rfl; have hfz68_0 := blk_frozen BK238.out 0; have hfz68_1 := blk_frozen BK238.out 1; have hfz68_2 := blk_frozen BK238.out 2; have hfz68_3 := blk_frozen BK238.out 3))
                                    refine bodyPost_ret (results_ct rfl _ _ gb238 32 #[.int .i64 2, .string (a0.extract (a1 : Int).toNat (x10_3 : Int).toNat), .int .i64 t245, .int .i64 a1] (0, 0) _ rfl (by (with_reducible repeat (first | refine blk_drewN ?_ _ | refine blk_drew ?_ | refine blk_alloc ?_ _)); refine blk_put (cs := #[.int .i64 2, .string (a0.extract (a1 : Int).toNat (x10_3 : Int).toNat), .int .i64 t245, .int .i64 0]) ?_ 3 _ rfl; (with_reducible repeat (first | refine blk_drewN ?_ _ | refine blk_drew ?_ | refine blk_alloc ?_ _)); refine blk_put (cs := #[.int .i64 2, .string (a0.extract (a1 : Int).toNat (x10_3 : Int).toNat), .int .i64 0, .int .i64 0]) ?_ 2 _ rfl; (with_reducible repeat (first | refine blk_drewN ?_ _ | refine blk_drew ?_ | refine blk_alloc ?_ _)); refine blk_put (cs := #[.int .i64 2, .string (⟨#[]⟩ : ByteArray), .int .i64 0, .int .i64 0]) ?_ 1 _ rfl; (with_reducible repeat (first | refine blk_drewN ?_ _ | refine blk_drew ?_ | refine blk_alloc ?_ _)); refine blk_put (cs := #[.int .i64 0, .string (⟨#[]⟩ : ByteArray), .int .i64 0, .int .i64 0]) ?_ 0 _ rfl; (with_reducible repeat (first | refine blk_drewN ?_ _ | refine blk_drew ?_ | refine blk_alloc ?_ _)); exact BK238.out) Tryd.underlying32 rfl (by kernel_rfl)) rfl ?_
                                    exact ⟨by first | rfl | (simp [errW_none, errW_some] <;> rfl) | (simp [*, errW_none, errW_some] <;> rfl), by repeat (first | (with_reducible first | exact HB.out | apply below_alloc | apply pw_below_drewN | apply below_drew1 | refine below_set ?_ GE238.out) | exact HB.out)⟩
                                  · replace c64 := Bool.eq_false_iff.mpr c64
                                    subst c64
                                    have H1 : (some (0, (⟨#[]⟩ : ByteArray), 0, 0, 0)) = some (r1, r2, r3, r4, r5) := by rw [if_neg (show ¬ (false = true) by decide)] at H; exact H
                                    clear H
                                    have H := H1
                                    clear H1
                                    simp only [Option.some.injEq, Prod.mk.injEq] at H
                                    obtain ⟨rfl, rfl, rfl, rfl, rfl⟩ := H
                                    have p46 : 0 ≤ (x10_3 : Int) := of_decide_eq_true (by first | (with_reducible assumption) | assumption)
                                    have q46 : x10_3 < (a0.size : Int) := of_decide_eq_true (by first | (with_reducible assumption) | assumption)
                                    have hx46 := bt_at a0 x10_3
                                    replace p46 := eq_true p46
                                    replace q46 := eq_true q46
                                    go_wp2_with (first | ((with_reducible refine gate_callee (f := 28) rfl ?_); refine goesL_ (some 104) rfl rfl Tryd.func28 (by kernel_rfl) rfl #[.string (a0.extract (a1 : Int).toNat (x10_3 : Int).toNat)] rfl (by (try simp only [List.map_toArray, List.map_cons, List.map_nil]); first | done | rfl | (simp only [List.length_drop, List.length_take]; rfl)) ?_; (with_reducible refine (switchyardref07_digits.calls k3 (a0.extract (a1 : Int).toNat (x10_3 : Int).toNat) t245 false _ A63.out).mono ?_); rintro e w' ⟨rfl, ⟨nd, rfl⟩⟩; refine ⟨_, rfl, ?_⟩; (try (rw [drewN_self wr]; generalize hq_ : World.drewN wr _ = wr; have n0_ : Aside0 (wr.heap[gb238]? = some (.cells #[.int .i64 0, .string (⟨#[]⟩ : ByteArray), .int .i64 0, .int .i64 0] 32 (0, 0))) := ⟨by rw [← hq_]; exact (by (with_reducible repeat (first | refine blk_drewN ?_ _ | refine blk_drew ?_ | refine blk_alloc ?_ _)); exact BK238.out)⟩; have n1_ : Aside0 (Below w.heap.size w wr) := ⟨by rw [← hq_]; exact (by repeat (first | (with_reducible first | exact HB.out | apply below_alloc | apply pw_below_drewN | apply below_drew1 | refine below_set ?_ GE238.out) | exact HB.out))⟩; clear BK238 HB hq_; have BK238 := n0_; have HB := n1_; clear n0_ n1_)); have hcz69_0 : wr.cell? ⟨gb238, 0, none⟩ = some (.int .i64 0) := (blk_cell BK238.out 0).trans rfl; have hcz69_1 : wr.cell? ⟨gb238, 1, none⟩ = some (.string (⟨#[]⟩ : ByteArray)) := (blk_cell BK238.out 1).trans rfl; have hcz69_2 : wr.cell? ⟨gb238, 2, none⟩ = some (.int .i64 0) := (blk_cell BK238.out 2).trans rfl; have hcz69_3 : wr.cell? ⟨gb238, 3, none⟩ = some (.int .i64 0) := (blk_cell BK238.out 3).trans rfl; have hfz69_0 := blk_frozen BK238.out 0; have hfz69_1 := blk_frozen BK238.out 1; have hfz69_2 := blk_frozen BK238.out 2; have hfz69_3 := blk_frozen BK238.out 3))
                                    refine bodyPost_ret (results_ct rfl _ _ gb238 32 #[.int .i64 0, .string (⟨#[]⟩ : ByteArray), .int .i64 0, .int .i64 0] (0, 0) _ rfl (by (with_reducible repeat (first | refine blk_drewN ?_ _ | refine blk_drew ?_ | refine blk_alloc ?_ _)); refine blk_put (cs := #[.int .i64 0, .string (⟨#[]⟩ : ByteArray), .int .i64 0, .int .i64 0]) ?_ 3 _ rfl; (with_reducible repeat (first | refine blk_drewN ?_ _ | refine blk_drew ?_ | refine blk_alloc ?_ _)); refine blk_put (cs := #[.int .i64 0, .string (⟨#[]⟩ : ByteArray), .int .i64 0, .int .i64 0]) ?_ 2 _ rfl; (with_reducible repeat (first | refine blk_drewN ?_ _ | refine blk_drew ?_ | refine blk_alloc ?_ _)); refine blk_put (cs := #[.int .i64 0, .string (⟨#[]⟩ : ByteArray), .int .i64 0, .int .i64 0]) ?_ 1 _ rfl; (with_reducible repeat (first | refine blk_drewN ?_ _ | refine blk_drew ?_ | refine blk_alloc ?_ _)); refine blk_put (cs := #[.int .i64 0, .string (⟨#[]⟩ : ByteArray), .int .i64 0, .int .i64 0]) ?_ 0 _ rfl; (with_reducible repeat (first | refine blk_drewN ?_ _ | refine blk_drew ?_ | refine blk_alloc ?_ _)); exact BK238.out) Tryd.underlying32 rfl (by kernel_rfl)) rfl ?_
                                    exact ⟨by first | rfl | (simp [errW_none, errW_some] <;> rfl) | (simp [*, errW_none, errW_some] <;> rfl), by repeat (first | (with_reducible first | exact HB.out | apply below_alloc | apply pw_below_drewN | apply below_drew1 | refine below_set ?_ GE238.out) | exact HB.out)⟩
                                · rw [if_neg c62] at H
                                  exact absurd H (by simp)
                              · rw [if_neg c61] at H
                                exact absurd H (by simp)
                            · rw [if_neg c60] at H
                              exact absurd H (by simp)
                        · rw [if_neg c45] at H
                          exact absurd H (by simp)
                      · rw [if_neg c44] at H
                        have c44b0 : decide (x10_3 < (a0.size : Int)) = false := decide_eq_false c44
                        clear c44
                        by_cases c70 : 0 ≤ a1
                        · rw [if_pos c70] at H
                          have c70b0 := eq_true c70
                          have c70b1 : decide (0 ≤ a1) = true := decide_eq_true c70
                          clear c70
                          by_cases c71 : a1 ≤ x10_3
                          · rw [if_pos c71] at H
                            have c71b0 := eq_true c71
                            have c71b1 : decide (a1 ≤ x10_3) = true := decide_eq_true c71
                            clear c71
                            by_cases c72 : x10_3 ≤ (a0.size : Int)
                            · rw [if_pos c72] at H
                              have c72b0 := eq_true c72
                              have c72b1 : decide (x10_3 ≤ (a0.size : Int)) = true := decide_eq_true c72
                              clear c72
                              replace H := Option.bind_eq_some_iff.mp H
                              obtain ⟨⟨t247, t248⟩, A730, H⟩ := H
                              replace H : (if t248 = true then (some (2, a0.extract (a1 : Int).toNat (x10_3 : Int).toNat, t247, a1, wrap64 (x10_3 - a1))) else (some (0, (⟨#[]⟩ : ByteArray), 0, 0, 0))) = some (r1, r2, r3, r4, r5) := H
                              have A73 := Aside0.mk A730
                              clear A730
                              by_cases c74 : t248 = true
                              · subst c74
                                have H1 : (some (2, a0.extract (a1 : Int).toNat (x10_3 : Int).toNat, t247, a1, wrap64 (x10_3 - a1))) = some (r1, r2, r3, r4, r5) := by rw [if_pos rfl] at H; exact H
                                clear H
                                have H := H1
                                clear H1
                                have c75b0 := eq_true (of_decide_eq_true (by first | (with_reducible assumption) | assumption) : 0 ≤ a1)
                                have c76b0 := eq_true (of_decide_eq_true (by first | (with_reducible assumption) | assumption) : a1 ≤ x10_3)
                                have c77b0 := eq_true (of_decide_eq_true (by first | (with_reducible assumption) | assumption) : x10_3 ≤ (a0.size : Int))
                                simp only [Option.some.injEq, Prod.mk.injEq] at H
                                obtain ⟨rfl, rfl, rfl, rfl, rfl⟩ := H
                                go_wp2_with (first | ((with_reducible refine gate_callee (f := 28) rfl ?_); refine goesL_ (some 104) rfl rfl Tryd.func28 (by kernel_rfl) rfl #[.string (a0.extract (a1 : Int).toNat (x10_3 : Int).toNat)] rfl (by (try simp only [List.map_toArray, List.map_cons, List.map_nil]); first | done | rfl | (simp only [List.length_drop, List.length_take]; rfl)) ?_; (with_reducible refine (switchyardref07_digits.calls k3 (a0.extract (a1 : Int).toNat (x10_3 : Int).toNat) t247 true _ A73.out).mono ?_); rintro e w' ⟨rfl, ⟨nd, rfl⟩⟩; refine ⟨_, rfl, ?_⟩; (try (rw [drewN_self wr]; generalize hq_ : World.drewN wr _ = wr; have n0_ : Aside0 (wr.heap[gb238]? = some (.cells #[.int .i64 0, .string (⟨#[]⟩ : ByteArray), .int .i64 0, .int .i64 0] 32 (0, 0))) := ⟨by rw [← hq_]; exact (by (with_reducible repeat (first | refine blk_drewN ?_ _ | refine blk_drew ?_ | refine blk_alloc ?_ _)); exact BK238.out)⟩; have n1_ : Aside0 (Below w.heap.size w wr) := ⟨by rw [← hq_]; exact (by repeat (first | (with_reducible first | exact HB.out | apply below_alloc | apply pw_below_drewN | apply below_drew1 | refine below_set ?_ GE238.out) | exact HB.out))⟩; clear BK238 HB hq_; have BK238 := n0_; have HB := n1_; clear n0_ n1_)); have hcz78_0 : wr.cell? ⟨gb238, 0, none⟩ = some (.int .i64 0) := (blk_cell BK238.out 0).trans rfl; have hcz78_1 : wr.cell? ⟨gb238, 1, none⟩ = some (.string (⟨#[]⟩ : ByteArray)) := (blk_cell BK238.out 1).trans rfl; have hcz78_2 : wr.cell? ⟨gb238, 2, none⟩ = some (.int .i64 0) := (blk_cell BK238.out 2).trans rfl; have hcz78_3 : wr.cell? ⟨gb238, 3, none⟩ = some (.int .i64 0) := (blk_cell BK238.out 3).trans rfl; have hfz78_0 := blk_frozen BK238.out 0; have hfz78_1 := blk_frozen BK238.out 1; have hfz78_2 := blk_frozen BK238.out 2; have hfz78_3 := blk_frozen BK238.out 3))
                                refine bodyPost_ret (results_ct rfl _ _ gb238 32 #[.int .i64 2, .string (a0.extract (a1 : Int).toNat (x10_3 : Int).toNat), .int .i64 t247, .int .i64 a1] (0, 0) _ rfl (by (with_reducible repeat (first | refine blk_drewN ?_ _ | refine blk_drew ?_ | refine blk_alloc ?_ _)); refine blk_put (cs := #[.int .i64 2, .string (a0.extract (a1 : Int).toNat (x10_3 : Int).toNat), .int .i64 t247, .int .i64 0]) ?_ 3 _ rfl; (with_reducible repeat (first | refine blk_drewN ?_ _ | refine blk_drew ?_ | refine blk_alloc ?_ _)); refine blk_put (cs := #[.int .i64 2, .string (a0.extract (a1 : Int).toNat (x10_3 : Int).toNat), .int .i64 0, .int .i64 0]) ?_ 2 _ rfl; (with_reducible repeat (first | refine blk_drewN ?_ _ | refine blk_drew ?_ | refine blk_alloc ?_ _)); refine blk_put (cs := #[.int .i64 2, .string (⟨#[]⟩ : ByteArray), .int .i64 0, .int .i64 0]) ?_ 1 _ rfl; (with_reducible repeat (first | refine blk_drewN ?_ _ | refine blk_drew ?_ | refine blk_alloc ?_ _)); refine blk_put (cs := #[.int .i64 0, .string (⟨#[]⟩ : ByteArray), .int .i64 0, .int .i64 0]) ?_ 0 _ rfl; (with_reducible repeat (first | refine blk_drewN ?_ _ | refine blk_drew ?_ | refine blk_alloc ?_ _)); exact BK238.out) Tryd.underlying32 rfl (by kernel_rfl)) rfl ?_
                                exact ⟨by first | rfl | (simp [errW_none, errW_some] <;> rfl) | (simp [*, errW_none, errW_some] <;> rfl), by repeat (first | (with_reducible first | exact HB.out | apply below_alloc | apply pw_below_drewN | apply below_drew1 | refine below_set ?_ GE238.out) | exact HB.out)⟩
                              · replace c74 := Bool.eq_false_iff.mpr c74
                                subst c74
                                have H1 : (some (0, (⟨#[]⟩ : ByteArray), 0, 0, 0)) = some (r1, r2, r3, r4, r5) := by rw [if_neg (show ¬ (false = true) by decide)] at H; exact H
                                clear H
                                have H := H1
                                clear H1
                                simp only [Option.some.injEq, Prod.mk.injEq] at H
                                obtain ⟨rfl, rfl, rfl, rfl, rfl⟩ := H
                                go_wp2_with (first | ((with_reducible refine gate_callee (f := 28) rfl ?_); refine goesL_ (some 104) rfl rfl Tryd.func28 (by kernel_rfl) rfl #[.string (a0.extract (a1 : Int).toNat (x10_3 : Int).toNat)] rfl (by (try simp only [List.map_toArray, List.map_cons, List.map_nil]); first | done | rfl | (simp only [List.length_drop, List.length_take]; rfl)) ?_; (with_reducible refine (switchyardref07_digits.calls k3 (a0.extract (a1 : Int).toNat (x10_3 : Int).toNat) t247 false _ A73.out).mono ?_); rintro e w' ⟨rfl, ⟨nd, rfl⟩⟩; refine ⟨_, rfl, ?_⟩; (try (rw [drewN_self wr]; generalize hq_ : World.drewN wr _ = wr; have n0_ : Aside0 (wr.heap[gb238]? = some (.cells #[.int .i64 0, .string (⟨#[]⟩ : ByteArray), .int .i64 0, .int .i64 0] 32 (0, 0))) := ⟨by rw [← hq_]; exact (by (with_reducible repeat (first | refine blk_drewN ?_ _ | refine blk_drew ?_ | refine blk_alloc ?_ _)); exact BK238.out)⟩; have n1_ : Aside0 (Below w.heap.size w wr) := ⟨by rw [← hq_]; exact (by repeat (first | (with_reducible first | exact HB.out | apply below_alloc | apply pw_below_drewN | apply below_drew1 | refine below_set ?_ GE238.out) | exact HB.out))⟩; clear BK238 HB hq_; have BK238 := n0_; have HB := n1_; clear n0_ n1_)); have hcz79_0 : wr.cell? ⟨gb238, 0, none⟩ = some (.int .i64 0) := (blk_cell BK238.out 0).trans rfl; have hcz79_1 : wr.cell? ⟨gb238, 1, none⟩ = some (.string (⟨#[]⟩ : ByteArray)) := (blk_cell BK238.out 1).trans rfl; have hcz79_2 : wr.cell? ⟨gb238, 2, none⟩ = some (.int .i64 0) := (blk_cell BK238.out 2).trans rfl; have hcz79_3 : wr.cell? ⟨gb238, 3, none⟩ = some (.int .i64 0) := (blk_cell BK238.out 3).trans rfl; have hfz79_0 := blk_frozen BK238.out 0; have hfz79_1 := blk_frozen BK238.out 1; have hfz79_2 := blk_frozen BK238.out 2; have hfz79_3 := blk_frozen BK238.out 3))
                                refine bodyPost_ret (results_ct rfl _ _ gb238 32 #[.int .i64 0, .string (⟨#[]⟩ : ByteArray), .int .i64 0, .int .i64 0] (0, 0) _ rfl (by (with_reducible repeat (first | refine blk_drewN ?_ _ | refine blk_drew ?_ | refine blk_alloc ?_ _)); refine blk_put (cs := #[.int .i64 0, .string (⟨#[]⟩ : ByteArray), .int .i64 0, .int .i64 0]) ?_ 3 _ rfl; (with_reducible repeat (first | refine blk_drewN ?_ _ | refine blk_drew ?_ | refine blk_alloc ?_ _)); refine blk_put (cs := #[.int .i64 0, .string (⟨#[]⟩ : ByteArray), .int .i64 0, .int .i64 0]) ?_ 2 _ rfl; (with_reducible repeat (first | refine blk_drewN ?_ _ | refine blk_drew ?_ | refine blk_alloc ?_ _)); refine blk_put (cs := #[.int .i64 0, .string (⟨#[]⟩ : ByteArray), .int .i64 0, .int .i64 0]) ?_ 1 _ rfl; (with_reducible repeat (first | refine blk_drewN ?_ _ | refine blk_drew ?_ | refine blk_alloc ?_ _)); refine blk_put (cs := #[.int .i64 0, .string (⟨#[]⟩ : ByteArray), .int .i64 0, .int .i64 0]) ?_ 0 _ rfl; (with_reducible repeat (first | refine blk_drewN ?_ _ | refine blk_drew ?_ | refine blk_alloc ?_ _)); exact BK238.out) Tryd.underlying32 rfl (by kernel_rfl)) rfl ?_
                                exact ⟨by first | rfl | (simp [errW_none, errW_some] <;> rfl) | (simp [*, errW_none, errW_some] <;> rfl), by repeat (first | (with_reducible first | exact HB.out | apply below_alloc | apply pw_below_drewN | apply below_drew1 | refine below_set ?_ GE238.out) | exact HB.out)⟩
                            · rw [if_neg c72] at H
                              exact absurd H (by simp)
                          · rw [if_neg c71] at H
                            exact absurd H (by simp)
                        · rw [if_neg c70] at H
                          exact absurd H (by simp)
                · replace c43 := Bool.eq_false_iff.mpr c43
                  subst c43
                  have H1 : (if (bt a0 a1) = 34 then ((switchyardref07_quoted.f kj40 a0 a1).bind fun t249 => (if t249 = 0 then (some (0, (⟨#[]⟩ : ByteArray), 0, 0, 0)) else (if 0 ≤ a1 then (if a1 ≤ (wrap64 (a1 + t249)) then (if (wrap64 (a1 + t249)) ≤ (a0.size : Int) then ((switchyardref07_said.f kj40 (a0.extract (a1 : Int).toNat ((wrap64 (a1 + t249)) : Int).toNat)).bind fun bt250 => (if bt250.2 = true then (some (3, bt250.1, 0, a1, t249)) else (some (0, (⟨#[]⟩ : ByteArray), 0, 0, 0)))) else (none)) else (none)) else (none)))) else ((switchyardref07_signs.f).bind fun t252 => (switchyardref07_token.l2 kj40 a0 a1 t252 (t252.length : Int) 0))) = some (r1, r2, r3, r4, r5) := by rw [if_neg (show ¬ (false = true) by decide)] at H; exact H
                  clear H
                  have H := H1
                  clear H1
                  by_cases c80 : (bt a0 a1) = 34
                  · rw [if_pos c80] at H
                    have c80b0 : ((bt a0 a1) == 34) = true := beq_iff_eq.mpr c80
                    have c80b1 : ((bt a0 a1) != 34) = false := bne_eq_false_iff_eq.mpr c80
                    clear c80
                    replace H := Option.bind_eq_some_iff.mp H
                    obtain ⟨t249, A810, H⟩ := H
                    replace H : (if t249 = 0 then (some (0, (⟨#[]⟩ : ByteArray), 0, 0, 0)) else (if 0 ≤ a1 then (if a1 ≤ (wrap64 (a1 + t249)) then (if (wrap64 (a1 + t249)) ≤ (a0.size : Int) then ((switchyardref07_said.f kj40 (a0.extract (a1 : Int).toNat ((wrap64 (a1 + t249)) : Int).toNat)).bind fun bt250 => (if bt250.2 = true then (some (3, bt250.1, 0, a1, t249)) else (some (0, (⟨#[]⟩ : ByteArray), 0, 0, 0)))) else (none)) else (none)) else (none))) = some (r1, r2, r3, r4, r5) := H
                    have A81 := Aside0.mk A810
                    clear A810
                    by_cases c82 : t249 = 0
                    · rw [if_pos c82] at H
                      have c82b0 : (t249 == 0) = true := beq_iff_eq.mpr c82
                      have c82b1 : (t249 != 0) = false := bne_eq_false_iff_eq.mpr c82
                      clear c82
                      simp only [Option.some.injEq, Prod.mk.injEq] at H
                      obtain ⟨rfl, rfl, rfl, rfl, rfl⟩ := H
                      go_wp2_with (first | ((with_reducible refine gate_callee (f := 29) rfl ?_); refine goesL_ (some 124) rfl rfl Tryd.func29 (by kernel_rfl) rfl #[.string a0, .int .i64 a1] rfl (by (try simp only [List.map_toArray, List.map_cons, List.map_nil]); first | done | rfl | (simp only [List.length_drop, List.length_take]; rfl)) ?_; (with_reducible refine (switchyardref07_quoted.calls kj40 a0 a1 t249 _ A81.out).mono ?_); rintro e w' ⟨rfl, ⟨nd, rfl⟩⟩; refine ⟨_, rfl, ?_⟩; (try (rw [drewN_self wc]; generalize hq_ : World.drewN wc _ = wc; have n0_ : Aside0 (wc.heap[gb238]? = some (.cells #[.int .i64 0, .string (⟨#[]⟩ : ByteArray), .int .i64 0, .int .i64 0] 32 (0, 0))) := ⟨by rw [← hq_]; exact (by (with_reducible repeat (first | refine blk_drewN ?_ _ | refine blk_drew ?_ | refine blk_alloc ?_ _)); exact BK238.out)⟩; have n1_ : Aside0 (Below w.heap.size w wc) := ⟨by rw [← hq_]; exact (by repeat (first | (with_reducible first | exact HB.out | apply below_alloc | apply pw_below_drewN | apply below_drew1 | refine below_set ?_ GE238.out) | exact HB.out))⟩; clear BK238 HB hq_; have BK238 := n0_; have HB := n1_; clear n0_ n1_)); have hcz83_0 : wc.cell? ⟨gb238, 0, none⟩ = some (.int .i64 0) := (blk_cell BK238.out 0).trans rfl; have hcz83_1 : wc.cell? ⟨gb238, 1, none⟩ = some (.string (⟨#[]⟩ : ByteArray)) := (blk_cell BK238.out 1).trans rfl; have hcz83_2 : wc.cell? ⟨gb238, 2, none⟩ = some (.int .i64 0) := (blk_cell BK238.out 2).trans rfl; have hcz83_3 : wc.cell? ⟨gb238, 3, none⟩ = some (.int .i64 0) := (blk_cell BK238.out 3).trans rfl; have hfz83_0 := blk_frozen BK238.out 0; have hfz83_1 := blk_frozen BK238.out 1; have hfz83_2 := blk_frozen BK238.out 2; have hfz83_3 := blk_frozen BK238.out 3))
                      refine bodyPost_ret (results_ct rfl _ _ gb238 32 #[.int .i64 0, .string (⟨#[]⟩ : ByteArray), .int .i64 0, .int .i64 0] (0, 0) _ rfl (by (with_reducible repeat (first | refine blk_drewN ?_ _ | refine blk_drew ?_ | refine blk_alloc ?_ _)); refine blk_put (cs := #[.int .i64 0, .string (⟨#[]⟩ : ByteArray), .int .i64 0, .int .i64 0]) ?_ 3 _ rfl; (with_reducible repeat (first | refine blk_drewN ?_ _ | refine blk_drew ?_ | refine blk_alloc ?_ _)); refine blk_put (cs := #[.int .i64 0, .string (⟨#[]⟩ : ByteArray), .int .i64 0, .int .i64 0]) ?_ 2 _ rfl; (with_reducible repeat (first | refine blk_drewN ?_ _ | refine blk_drew ?_ | refine blk_alloc ?_ _)); refine blk_put (cs := #[.int .i64 0, .string (⟨#[]⟩ : ByteArray), .int .i64 0, .int .i64 0]) ?_ 1 _ rfl; (with_reducible repeat (first | refine blk_drewN ?_ _ | refine blk_drew ?_ | refine blk_alloc ?_ _)); refine blk_put (cs := #[.int .i64 0, .string (⟨#[]⟩ : ByteArray), .int .i64 0, .int .i64 0]) ?_ 0 _ rfl; (with_reducible repeat (first | refine blk_drewN ?_ _ | refine blk_drew ?_ | refine blk_alloc ?_ _)); exact BK238.out) Tryd.underlying32 rfl (by kernel_rfl)) rfl ?_
                      exact ⟨by first | rfl | (simp [errW_none, errW_some] <;> rfl) | (simp [*, errW_none, errW_some] <;> rfl), by repeat (first | (with_reducible first | exact HB.out | apply below_alloc | apply pw_below_drewN | apply below_drew1 | refine below_set ?_ GE238.out) | exact HB.out)⟩
                    · rw [if_neg c82] at H
                      have c82b0 : (t249 == 0) = false := beq_eq_false_iff_ne.mpr c82
                      have c82b1 : (t249 != 0) = true := bne_iff_ne.mpr c82
                      by_cases c84 : 0 ≤ a1
                      · rw [if_pos c84] at H
                        have c84b0 := eq_true c84
                        have c84b1 : decide (0 ≤ a1) = true := decide_eq_true c84
                        clear c84
                        by_cases c85 : a1 ≤ (wrap64 (a1 + t249))
                        · rw [if_pos c85] at H
                          have c85b0 := eq_true c85
                          have c85b1 : decide (a1 ≤ (wrap64 (a1 + t249))) = true := decide_eq_true c85
                          by_cases c86 : (wrap64 (a1 + t249)) ≤ (a0.size : Int)
                          · rw [if_pos c86] at H
                            have c86b0 := eq_true c86
                            have c86b1 : decide ((wrap64 (a1 + t249)) ≤ (a0.size : Int)) = true := decide_eq_true c86
                            replace H := Option.bind_eq_some_iff.mp H
                            obtain ⟨⟨t250, t251⟩, A870, H⟩ := H
                            replace H : (if t251 = true then (some (3, t250, 0, a1, t249)) else (some (0, (⟨#[]⟩ : ByteArray), 0, 0, 0))) = some (r1, r2, r3, r4, r5) := H
                            have A87 := Aside0.mk A870
                            clear A870
                            by_cases c88 : t251 = true
                            · subst c88
                              have H1 : (some (3, t250, 0, a1, t249)) = some (r1, r2, r3, r4, r5) := by rw [if_pos rfl] at H; exact H
                              clear H
                              have H := H1
                              clear H1
                              simp only [Option.some.injEq, Prod.mk.injEq] at H
                              obtain ⟨rfl, rfl, rfl, rfl, rfl⟩ := H
                              go_wp2_with (first | ((with_reducible refine gate_callee (f := 29) rfl ?_); refine goesL_ (some 124) rfl rfl Tryd.func29 (by kernel_rfl) rfl #[.string a0, .int .i64 a1] rfl (by (try simp only [List.map_toArray, List.map_cons, List.map_nil]); first | done | rfl | (simp only [List.length_drop, List.length_take]; rfl)) ?_; (with_reducible refine (switchyardref07_quoted.calls kj40 a0 a1 t249 _ A81.out).mono ?_); rintro e w' ⟨rfl, ⟨nd, rfl⟩⟩; refine ⟨_, rfl, ?_⟩; (try (rw [drewN_self wc]; generalize hq_ : World.drewN wc _ = wc; have n0_ : Aside0 (wc.heap[gb238]? = some (.cells #[.int .i64 0, .string (⟨#[]⟩ : ByteArray), .int .i64 0, .int .i64 0] 32 (0, 0))) := ⟨by rw [← hq_]; exact (by (with_reducible repeat (first | refine blk_drewN ?_ _ | refine blk_drew ?_ | refine blk_alloc ?_ _)); exact BK238.out)⟩; have n1_ : Aside0 (Below w.heap.size w wc) := ⟨by rw [← hq_]; exact (by repeat (first | (with_reducible first | exact HB.out | apply below_alloc | apply pw_below_drewN | apply below_drew1 | refine below_set ?_ GE238.out) | exact HB.out))⟩; clear BK238 HB hq_; have BK238 := n0_; have HB := n1_; clear n0_ n1_))) | ((with_reducible refine gate_callee (f := 30) rfl ?_); refine goesL_ (some 135) rfl rfl Tryd.func30 (by kernel_rfl) rfl #[.string (a0.extract (a1 : Int).toNat ((wrap64 (a1 + t249)) : Int).toNat)] rfl (by (try simp only [List.map_toArray, List.map_cons, List.map_nil]); first | done | rfl | (simp only [List.length_drop, List.length_take]; rfl)) ?_; (with_reducible refine (switchyardref07_said.calls kj40 (a0.extract (a1 : Int).toNat ((wrap64 (a1 + t249)) : Int).toNat) t250 true _ A87.out).mono ?_); rintro e w89 ⟨rfl, hb⟩; refine ⟨_, rfl, ?_⟩; have n0_ := Aside0.mk (blk_below (g := gb238) (o := .cells #[.int .i64 0, .string (⟨#[]⟩ : ByteArray), .int .i64 0, .int .i64 0] 32 (0, 0)) (by (with_reducible repeat (first | refine blk_drewN ?_ _ | refine blk_drew ?_ | refine blk_alloc ?_ _)); exact BK238.out) hb); have n1_ := Aside0.mk (below_step (by repeat (first | (with_reducible first | exact HB.out | apply below_alloc | apply pw_below_drewN | apply below_drew1 | refine below_set ?_ GE238.out) | exact HB.out)) hb); clear BK238; clear HB; have BK238 := n0_; have HB := n1_; clear n0_ n1_; (try clear hb); (try clear hb2); (try clear hk); (try clear hi); have hcz90_0 : w89.cell? ⟨gb238, 0, none⟩ = some (.int .i64 0) := (blk_cell BK238.out 0).trans rfl; have hcz90_1 : w89.cell? ⟨gb238, 1, none⟩ = some (.string (⟨#[]⟩ : ByteArray)) := (blk_cell BK238.out 1).trans rfl; have hcz90_2 : w89.cell? ⟨gb238, 2, none⟩ = some (.int .i64 0) := (blk_cell BK238.out 2).trans rfl; have hcz90_3 : w89.cell? ⟨gb238, 3, none⟩ = some (.int .i64 0) := (blk_cell BK238.out 3).trans rfl; have hfz90_0 := blk_frozen BK238.out 0; have hfz90_1 := blk_frozen BK238.out 1; have hfz90_2 := blk_frozen BK238.out 2; have hfz90_3 := blk_frozen BK238.out 3))
                              refine bodyPost_ret (results_ct rfl _ _ gb238 32 #[.int .i64 3, .string t250, .int .i64 0, .int .i64 a1] (0, 0) _ rfl (by (with_reducible repeat (first | refine blk_drewN ?_ _ | refine blk_drew ?_ | refine blk_alloc ?_ _)); refine blk_put (cs := #[.int .i64 3, .string t250, .int .i64 0, .int .i64 0]) ?_ 3 _ rfl; (with_reducible repeat (first | refine blk_drewN ?_ _ | refine blk_drew ?_ | refine blk_alloc ?_ _)); refine blk_put (cs := #[.int .i64 3, .string t250, .int .i64 0, .int .i64 0]) ?_ 2 _ rfl; (with_reducible repeat (first | refine blk_drewN ?_ _ | refine blk_drew ?_ | refine blk_alloc ?_ _)); refine blk_put (cs := #[.int .i64 3, .string (⟨#[]⟩ : ByteArray), .int .i64 0, .int .i64 0]) ?_ 1 _ rfl; (with_reducible repeat (first | refine blk_drewN ?_ _ | refine blk_drew ?_ | refine blk_alloc ?_ _)); refine blk_put (cs := #[.int .i64 0, .string (⟨#[]⟩ : ByteArray), .int .i64 0, .int .i64 0]) ?_ 0 _ rfl; (with_reducible repeat (first | refine blk_drewN ?_ _ | refine blk_drew ?_ | refine blk_alloc ?_ _)); exact BK238.out) Tryd.underlying32 rfl (by kernel_rfl)) rfl ?_
                              exact ⟨by first | rfl | (simp [errW_none, errW_some] <;> rfl) | (simp [*, errW_none, errW_some] <;> rfl), by repeat (first | (with_reducible first | exact HB.out | apply below_alloc | apply pw_below_drewN | apply below_drew1 | refine below_set ?_ GE238.out) | exact HB.out)⟩
                            · replace c88 := Bool.eq_false_iff.mpr c88
                              subst c88
                              have H1 : (some (0, (⟨#[]⟩ : ByteArray), 0, 0, 0)) = some (r1, r2, r3, r4, r5) := by rw [if_neg (show ¬ (false = true) by decide)] at H; exact H
                              clear H
                              have H := H1
                              clear H1
                              simp only [Option.some.injEq, Prod.mk.injEq] at H
                              obtain ⟨rfl, rfl, rfl, rfl, rfl⟩ := H
                              go_wp2_with (first | ((with_reducible refine gate_callee (f := 29) rfl ?_); refine goesL_ (some 124) rfl rfl Tryd.func29 (by kernel_rfl) rfl #[.string a0, .int .i64 a1] rfl (by (try simp only [List.map_toArray, List.map_cons, List.map_nil]); first | done | rfl | (simp only [List.length_drop, List.length_take]; rfl)) ?_; (with_reducible refine (switchyardref07_quoted.calls kj40 a0 a1 t249 _ A81.out).mono ?_); rintro e w' ⟨rfl, ⟨nd, rfl⟩⟩; refine ⟨_, rfl, ?_⟩; (try (rw [drewN_self wc]; generalize hq_ : World.drewN wc _ = wc; have n0_ : Aside0 (wc.heap[gb238]? = some (.cells #[.int .i64 0, .string (⟨#[]⟩ : ByteArray), .int .i64 0, .int .i64 0] 32 (0, 0))) := ⟨by rw [← hq_]; exact (by (with_reducible repeat (first | refine blk_drewN ?_ _ | refine blk_drew ?_ | refine blk_alloc ?_ _)); exact BK238.out)⟩; have n1_ : Aside0 (Below w.heap.size w wc) := ⟨by rw [← hq_]; exact (by repeat (first | (with_reducible first | exact HB.out | apply below_alloc | apply pw_below_drewN | apply below_drew1 | refine below_set ?_ GE238.out) | exact HB.out))⟩; clear BK238 HB hq_; have BK238 := n0_; have HB := n1_; clear n0_ n1_))) | ((with_reducible refine gate_callee (f := 30) rfl ?_); refine goesL_ (some 135) rfl rfl Tryd.func30 (by kernel_rfl) rfl #[.string (a0.extract (a1 : Int).toNat ((wrap64 (a1 + t249)) : Int).toNat)] rfl (by (try simp only [List.map_toArray, List.map_cons, List.map_nil]); first | done | rfl | (simp only [List.length_drop, List.length_take]; rfl)) ?_; (with_reducible refine (switchyardref07_said.calls kj40 (a0.extract (a1 : Int).toNat ((wrap64 (a1 + t249)) : Int).toNat) t250 false _ A87.out).mono ?_); rintro e w91 ⟨rfl, hb⟩; refine ⟨_, rfl, ?_⟩; have n0_ := Aside0.mk (blk_below (g := gb238) (o := .cells #[.int .i64 0, .string (⟨#[]⟩ : ByteArray), .int .i64 0, .int .i64 0] 32 (0, 0)) (by (with_reducible repeat (first | refine blk_drewN ?_ _ | refine blk_drew ?_ | refine blk_alloc ?_ _)); exact BK238.out) hb); have n1_ := Aside0.mk (below_step (by repeat (first | (with_reducible first | exact HB.out | apply below_alloc | apply pw_below_drewN | apply below_drew1 | refine below_set ?_ GE238.out) | exact HB.out)) hb); clear BK238; clear HB; have BK238 := n0_; have HB := n1_; clear n0_ n1_; (try clear hb); (try clear hb2); (try clear hk); (try clear hi); have hcz92_0 : w91.cell? ⟨gb238, 0, none⟩ = some (.int .i64 0) := (blk_cell BK238.out 0).trans rfl; have hcz92_1 : w91.cell? ⟨gb238, 1, none⟩ = some (.string (⟨#[]⟩ : ByteArray)) := (blk_cell BK238.out 1).trans rfl; have hcz92_2 : w91.cell? ⟨gb238, 2, none⟩ = some (.int .i64 0) := (blk_cell BK238.out 2).trans rfl; have hcz92_3 : w91.cell? ⟨gb238, 3, none⟩ = some (.int .i64 0) := (blk_cell BK238.out 3).trans rfl; have hfz92_0 := blk_frozen BK238.out 0; have hfz92_1 := blk_frozen BK238.out 1; have hfz92_2 := blk_frozen BK238.out 2; have hfz92_3 := blk_frozen BK238.out 3))
                              refine bodyPost_ret (results_ct rfl _ _ gb238 32 #[.int .i64 0, .string (⟨#[]⟩ : ByteArray), .int .i64 0, .int .i64 0] (0, 0) _ rfl (by (with_reducible repeat (first | refine blk_drewN ?_ _ | refine blk_drew ?_ | refine blk_alloc ?_ _)); refine blk_put (cs := #[.int .i64 0, .string (⟨#[]⟩ : ByteArray), .int .i64 0, .int .i64 0]) ?_ 3 _ rfl; (with_reducible repeat (first | refine blk_drewN ?_ _ | refine blk_drew ?_ | refine blk_alloc ?_ _)); refine blk_put (cs := #[.int .i64 0, .string (⟨#[]⟩ : ByteArray), .int .i64 0, .int .i64 0]) ?_ 2 _ rfl; (with_reducible repeat (first | refine blk_drewN ?_ _ | refine blk_drew ?_ | refine blk_alloc ?_ _)); refine blk_put (cs := #[.int .i64 0, .string (⟨#[]⟩ : ByteArray), .int .i64 0, .int .i64 0]) ?_ 1 _ rfl; (with_reducible repeat (first | refine blk_drewN ?_ _ | refine blk_drew ?_ | refine blk_alloc ?_ _)); refine blk_put (cs := #[.int .i64 0, .string (⟨#[]⟩ : ByteArray), .int .i64 0, .int .i64 0]) ?_ 0 _ rfl; (with_reducible repeat (first | refine blk_drewN ?_ _ | refine blk_drew ?_ | refine blk_alloc ?_ _)); exact BK238.out) Tryd.underlying32 rfl (by kernel_rfl)) rfl ?_
                              exact ⟨by first | rfl | (simp [errW_none, errW_some] <;> rfl) | (simp [*, errW_none, errW_some] <;> rfl), by repeat (first | (with_reducible first | exact HB.out | apply below_alloc | apply pw_below_drewN | apply below_drew1 | refine below_set ?_ GE238.out) | exact HB.out)⟩
                          · rw [if_neg c86] at H
                            exact absurd H (by simp)
                        · rw [if_neg c85] at H
                          exact absurd H (by simp)
                      · rw [if_neg c84] at H
                        exact absurd H (by simp)
                  · rw [if_neg c80] at H
                    have c80b0 : ((bt a0 a1) == 34) = false := beq_eq_false_iff_ne.mpr c80
                    have c80b1 : ((bt a0 a1) != 34) = true := bne_iff_ne.mpr c80
                    replace H := Option.bind_eq_some_iff.mp H
                    obtain ⟨t252, A930, H⟩ := H
                    replace H : (switchyardref07_token.l2 kj40 a0 a1 t252 (t252.length : Int) 0) = some (r1, r2, r3, r4, r5) := H
                    have A93 := Aside0.mk A930
                    clear A930
                    have H' := Aside0.mk H
                    clear H
                    go_wp2_with (first | ((with_reducible refine gate_callee (f := 31) rfl ?_); refine goesL_ (some 145) rfl rfl Tryd.func31 (by kernel_rfl) rfl #[] rfl (by (try simp only [List.map_toArray, List.map_cons, List.map_nil]); first | done | rfl | (simp only [List.length_drop, List.length_take]; rfl)) ?_; (with_reducible refine (switchyardref07_signs.calls  t252 _ A93.out).mono ?_); rintro e w94 ⟨v253, rfl, ho0, hb⟩; refine ⟨_, rfl, ?_⟩; have n0_ := Aside0.mk (Kd.R_lower ho0 (below_size (by repeat (first | (with_reducible first | exact HB.out | apply below_alloc | apply pw_below_drewN | apply below_drew1 | refine below_set ?_ GE238.out) | exact HB.out)))); have n1_ := Aside0.mk (blk_below (g := gb238) (o := .cells #[.int .i64 0, .string (⟨#[]⟩ : ByteArray), .int .i64 0, .int .i64 0] 32 (0, 0)) (by (with_reducible repeat (first | refine blk_drewN ?_ _ | refine blk_drew ?_ | refine blk_alloc ?_ _)); exact BK238.out) hb); have n2_ := Aside0.mk (below_step (by repeat (first | (with_reducible first | exact HB.out | apply below_alloc | apply pw_below_drewN | apply below_drew1 | refine below_set ?_ GE238.out) | exact HB.out)) hb); clear BK238; clear HB; have HO254 := n0_; have BK238 := n1_; have HB := n2_; clear n0_ n1_ n2_; (try clear hb); (try clear hb2); (try clear hk); (try clear hi); (try clear ho0); obtain ⟨Ao95, co95, eo95⟩ := Kd.R_slice HO254.out; subst eo95))
                    go_loopg [147] kj40 (fun kq v147 w' => ∃ (x147_3 : Int) (x239000_3 : Int) (x239001_3 : ByteArray) (x239002_3 : Int) (x239003_3 : Int), v147 = .int .i64 x147_3 ∧ Aside0 (switchyardref07_token.l2 kq a0 a1 t252 (t252.length : Int) x147_3 = some (r1, r2, r3, r4, r5)) ∧ Aside0 (kq ≤ kj40) ∧ Aside0 (Kd.R Kd.string 9 w' w.heap.size (fun _ => True) (.slice Ao95 t252.length co95) t252) ∧ Aside0 (w'.heap[gb238]? = some (.cells #[.int .i64 x239000_3, .string x239001_3, .int .i64 x239002_3, .int .i64 x239003_3] 32 (0, 0))) ∧ Aside0 (Below w.heap.size w w'))
                    case atStart => exact ⟨(0), (0), ((⟨#[]⟩ : ByteArray)), (0), (0), (by first | rfl | (simp; done) | (simp [*]; done)), H', ⟨Nat.le_refl _⟩, ⟨by (with_reducible repeat (first | apply Kd.R_alloc | apply Kd.R_drewN | apply Kd.R_drew)); exact HO254.out⟩, ⟨by (with_reducible repeat (first | refine blk_drewN ?_ _ | refine blk_drew ?_ | refine blk_alloc ?_ _)); exact BK238.out⟩, ⟨by repeat (first | (with_reducible first | exact HB.out | apply below_alloc | apply pw_below_drewN | apply below_drew1 | refine below_set ?_ GE238.out) | exact HB.out)⟩⟩
                    case round =>
                      clear H'
                      try clear c1
                      try clear p1
                      try clear q1
                      try clear hx1
                      try clear c2
                      try clear p2
                      try clear c3
                      try clear c3b0
                      try clear c4
                      try clear c4b0
                      try clear p4
                      try clear q4
                      try clear hx4
                      try clear c5
                      try clear p5
                      try clear q5
                      try clear hx5
                      try clear c6
                      try clear p6
                      try clear c7
                      try clear c8
                      try clear c8b0
                      try clear c8b1
                      try clear c10
                      try clear c11
                      try clear c11b0
                      try clear c12
                      try clear c12b0
                      try clear c13
                      try clear c15
                      try clear c15b0
                      try clear c15b1
                      try clear c16
                      try clear c16b0
                      try clear c17
                      try clear c17b0
                      try clear p18
                      try clear q18
                      try clear hx18
                      try clear c20
                      try clear c21
                      try clear c21b0
                      try clear c21b1
                      try clear c22
                      try clear c22b0
                      try clear c22b1
                      try clear c23
                      try clear c23b0
                      try clear c23b1
                      try clear c25
                      try clear c26
                      try clear c26b0
                      try clear c27
                      try clear c27b0
                      try clear c28
                      try clear c28b0
                      try clear c29
                      try clear c30
                      try clear c31
                      try clear c31b0
                      try clear c31b1
                      try clear c32
                      try clear c32b0
                      try clear c32b1
                      try clear c33
                      try clear c33b0
                      try clear c33b1
                      try clear c35
                      try clear c36
                      try clear c36b0
                      try clear c37
                      try clear c37b0
                      try clear c38
                      try clear c38b0
                      try clear c42
                      try clear c42b0
                      try clear c43
                      try clear c44
                      try clear c44b0
                      try clear c45
                      try clear c45b0
                      try clear p46
                      try clear q46
                      try clear hx46
                      try clear c47
                      try clear c47b0
                      try clear p48
                      try clear q48
                      try clear hx48
                      try clear c49
                      try clear c49b0
                      try clear c50
                      try clear c50b0
                      try clear c50b1
                      try clear c51
                      try clear c51b0
                      try clear c51b1
                      try clear c52
                      try clear c52b0
                      try clear c52b1
                      try clear c54
                      try clear c55
                      try clear c55b0
                      try clear c56
                      try clear c56b0
                      try clear c57
                      try clear c57b0
                      try clear c60
                      try clear c60b0
                      try clear c60b1
                      try clear c61
                      try clear c61b0
                      try clear c61b1
                      try clear c62
                      try clear c62b0
                      try clear c62b1
                      try clear c64
                      try clear p64
                      try clear c65
                      try clear c65b0
                      try clear c66
                      try clear c66b0
                      try clear c67
                      try clear c67b0
                      try clear c70
                      try clear c70b0
                      try clear c70b1
                      try clear c71
                      try clear c71b0
                      try clear c71b1
                      try clear c72
                      try clear c72b0
                      try clear c72b1
                      try clear c74
                      try clear c75
                      try clear c75b0
                      try clear c76
                      try clear c76b0
                      try clear c77
                      try clear c77b0
                      try clear c80
                      try clear c80b0
                      try clear c80b1
                      try clear c82
                      try clear c82b0
                      try clear c82b1
                      try clear c84
                      try clear c84b0
                      try clear c84b1
                      try clear c85
                      try clear c85b0
                      try clear c85b1
                      try clear c86
                      try clear c86b0
                      try clear c86b1
                      try clear c88
                      try clear hcz29_0
                      try clear hcz29_1
                      try clear hcz29_2
                      try clear hcz29_3
                      try clear hcz30_0
                      try clear hcz30_1
                      try clear hcz30_2
                      try clear hcz30_3
                      try clear hcz39_0
                      try clear hcz39_1
                      try clear hcz39_2
                      try clear hcz39_3
                      try clear hcz40_0
                      try clear hcz40_1
                      try clear hcz40_2
                      try clear hcz40_3
                      try clear hcz58_0
                      try clear hcz58_1
                      try clear hcz58_2
                      try clear hcz58_3
                      try clear hcz59_0
                      try clear hcz59_1
                      try clear hcz59_2
                      try clear hcz59_3
                      try clear hcz68_0
                      try clear hcz68_1
                      try clear hcz68_2
                      try clear hcz68_3
                      try clear hcz69_0
                      try clear hcz69_1
                      try clear hcz69_2
                      try clear hcz69_3
                      try clear hcz78_0
                      try clear hcz78_1
                      try clear hcz78_2
                      try clear hcz78_3
                      try clear hcz79_0
                      try clear hcz79_1
                      try clear hcz79_2
                      try clear hcz79_3
                      try clear hcz83_0
                      try clear hcz83_1
                      try clear hcz83_2
                      try clear hcz83_3
                      try clear hcz90_0
                      try clear hcz90_1
                      try clear hcz90_2
                      try clear hcz90_3
                      try clear hcz92_0
                      try clear hcz92_1
                      try clear hcz92_2
                      try clear hcz92_3
                      try clear hfz29_0
                      try clear hfz29_1
                      try clear hfz29_2
                      try clear hfz29_3
                      try clear hfz30_0
                      try clear hfz30_1
                      try clear hfz30_2
                      try clear hfz30_3
                      try clear hfz39_0
                      try clear hfz39_1
                      try clear hfz39_2
                      try clear hfz39_3
                      try clear hfz40_0
                      try clear hfz40_1
                      try clear hfz40_2
                      try clear hfz40_3
                      try clear hfz58_0
                      try clear hfz58_1
                      try clear hfz58_2
                      try clear hfz58_3
                      try clear hfz59_0
                      try clear hfz59_1
                      try clear hfz59_2
                      try clear hfz59_3
                      try clear hfz68_0
                      try clear hfz68_1
                      try clear hfz68_2
                      try clear hfz68_3
                      try clear hfz69_0
                      try clear hfz69_1
                      try clear hfz69_2
                      try clear hfz69_3
                      try clear hfz78_0
                      try clear hfz78_1
                      try clear hfz78_2
                      try clear hfz78_3
                      try clear hfz79_0
                      try clear hfz79_1
                      try clear hfz79_2
                      try clear hfz79_3
                      try clear hfz83_0
                      try clear hfz83_1
                      try clear hfz83_2
                      try clear hfz83_3
                      try clear hfz90_0
                      try clear hfz90_1
                      try clear hfz90_2
                      try clear hfz90_3
                      try clear hfz92_0
                      try clear hfz92_1
                      try clear hfz92_2
                      try clear hfz92_3
                      try clear p1
                      try clear p18
                      try clear p2
                      try clear p46
                      try clear p48
                      try clear p5
                      try clear p6
                      try clear q1
                      try clear q18
                      try clear q46
                      try clear q48
                      try clear q5
                      obtain ⟨x147_3, x239000_3, x239001_3, x239002_3, x239003_3, rfl, HA, HK3, HO_145, BK238, HB⟩ := hrel
                      cases gk with
                      | zero => exact absurd HA.out (by simp [switchyardref07_token.l2])
                      | succ k3 =>
                        have H := HA.out
                        clear HA
                        simp only [switchyardref07_token.l2] at H
                        by_cases c96 : x147_3 < (t252.length : Int)
                        · rw [if_pos c96] at H
                          have c96b0 : decide (x147_3 < (t252.length : Int)) = true := decide_eq_true c96
                          clear c96
                          by_cases c97 : 0 ≤ x147_3
                          · rw [if_pos c97] at H
                            have c97b0 : decide (0 ≤ x147_3) = true := decide_eq_true c97
                            clear c97
                            by_cases c98 : x147_3 < (t252.length : Int)
                            · rw [if_pos c98] at H
                              have c98b0 : decide (x147_3 < (t252.length : Int)) = true := decide_eq_true c98
                              clear c98
                              by_cases c99 : (wrap64 (a1 + ((rdOf ByteArray.empty t252 x147_3).size : Int))) ≤ (a0.size : Int)
                              · rw [if_pos c99] at H
                                have c99b0 : decide ((wrap64 (a1 + ((rdOf ByteArray.empty t252 x147_3).size : Int))) ≤ (a0.size : Int)) = true := decide_eq_true c99
                                clear c99
                                by_cases c100 : 0 ≤ a1
                                · rw [if_pos c100] at H
                                  have c100b0 := eq_true c100
                                  have c100b1 : decide (0 ≤ a1) = true := decide_eq_true c100
                                  clear c100
                                  by_cases c101 : a1 ≤ (wrap64 (a1 + ((rdOf ByteArray.empty t252 x147_3).size : Int)))
                                  · rw [if_pos c101] at H
                                    have c101b0 := eq_true c101
                                    have c101b1 : decide (a1 ≤ (wrap64 (a1 + ((rdOf ByteArray.empty t252 x147_3).size : Int)))) = true := decide_eq_true c101
                                    have c102b0 := eq_true (of_decide_eq_true (by first | (with_reducible assumption) | assumption) : (wrap64 (a1 + ((rdOf ByteArray.empty t252 x147_3).size : Int))) ≤ (a0.size : Int))
                                    by_cases c103 : (a0.extract (a1 : Int).toNat ((wrap64 (a1 + ((rdOf ByteArray.empty t252 x147_3).size : Int))) : Int).toNat).toList = (rdOf ByteArray.empty t252 x147_3).toList
                                    · rw [if_pos c103] at H
                                      have c103b0 : ((a0.extract (a1 : Int).toNat ((wrap64 (a1 + ((rdOf ByteArray.empty t252 x147_3).size : Int))) : Int).toNat).toList == (rdOf ByteArray.empty t252 x147_3).toList) = true := beq_iff_eq.mpr c103
                                      have c103b1 : ((a0.extract (a1 : Int).toNat ((wrap64 (a1 + ((rdOf ByteArray.empty t252 x147_3).size : Int))) : Int).toNat).toList != (rdOf ByteArray.empty t252 x147_3).toList) = false := bne_eq_false_iff_eq.mpr c103
                                      clear c103
                                      simp only [Option.some.injEq, Prod.mk.injEq] at H
                                      obtain ⟨rfl, rfl, rfl, rfl, rfl⟩ := H
                                      have p255 : 0 ≤ (x147_3 : Int) := of_decide_eq_true (by first | (with_reducible assumption) | assumption)
                                      have q255 : x147_3 < (t252.length : Int) := of_decide_eq_true (by first | (with_reducible assumption) | assumption)
                                      obtain ⟨ad255, e255, hx255_0⟩ := Kd.at_string (Kd.R_reads' HO_145.out).2.2 x147_3 p255 q255
                                      cases e255
                                      replace p255 := eq_true p255
                                      replace q255 := eq_true q255
                                      have hcz104_0 : wr.cell? ⟨gb238, 0, none⟩ = some (.int .i64 x239000_3) := (blk_cell BK238.out 0).trans rfl
                                      have hcz104_1 : wr.cell? ⟨gb238, 1, none⟩ = some (.string x239001_3) := (blk_cell BK238.out 1).trans rfl
                                      have hcz104_2 : wr.cell? ⟨gb238, 2, none⟩ = some (.int .i64 x239002_3) := (blk_cell BK238.out 2).trans rfl
                                      have hcz104_3 : wr.cell? ⟨gb238, 3, none⟩ = some (.int .i64 x239003_3) := (blk_cell BK238.out 3).trans rfl
                                      have hfz104_0 := blk_frozen BK238.out 0
                                      have hfz104_1 := blk_frozen BK238.out 1
                                      have hfz104_2 := blk_frozen BK238.out 2
                                      have hfz104_3 := blk_frozen BK238.out 3
                                      go_wp2
                                      refine bodyPost_ret (results_ct rfl _ _ gb238 32 #[.int .i64 5, .string (rdOf ByteArray.empty t252 x147_3), .int .i64 0, .int .i64 a1] (0, 0) _ rfl (by (with_reducible repeat (first | refine blk_drewN ?_ _ | refine blk_drew ?_ | refine blk_alloc ?_ _)); refine blk_put (cs := #[.int .i64 5, .string (rdOf ByteArray.empty t252 x147_3), .int .i64 0, .int .i64 x239003_3]) ?_ 3 _ rfl; (with_reducible repeat (first | refine blk_drewN ?_ _ | refine blk_drew ?_ | refine blk_alloc ?_ _)); refine blk_put (cs := #[.int .i64 5, .string (rdOf ByteArray.empty t252 x147_3), .int .i64 x239002_3, .int .i64 x239003_3]) ?_ 2 _ rfl; (with_reducible repeat (first | refine blk_drewN ?_ _ | refine blk_drew ?_ | refine blk_alloc ?_ _)); refine blk_put (cs := #[.int .i64 5, .string x239001_3, .int .i64 x239002_3, .int .i64 x239003_3]) ?_ 1 _ rfl; (with_reducible repeat (first | refine blk_drewN ?_ _ | refine blk_drew ?_ | refine blk_alloc ?_ _)); refine blk_put (cs := #[.int .i64 x239000_3, .string x239001_3, .int .i64 x239002_3, .int .i64 x239003_3]) ?_ 0 _ rfl; (with_reducible repeat (first | refine blk_drewN ?_ _ | refine blk_drew ?_ | refine blk_alloc ?_ _)); exact BK238.out) Tryd.underlying32 rfl (by kernel_rfl)) rfl ?_
                                      exact ⟨by first | rfl | (simp [errW_none, errW_some] <;> rfl) | (simp [*, errW_none, errW_some] <;> rfl), by repeat (first | (with_reducible first | exact HB.out | apply below_alloc | apply pw_below_drewN | apply below_drew1 | refine below_set ?_ GE238.out) | exact HB.out)⟩
                                    · rw [if_neg c103] at H
                                      have c103b0 : ((a0.extract (a1 : Int).toNat ((wrap64 (a1 + ((rdOf ByteArray.empty t252 x147_3).size : Int))) : Int).toNat).toList == (rdOf ByteArray.empty t252 x147_3).toList) = false := beq_eq_false_iff_ne.mpr c103
                                      have c103b1 : ((a0.extract (a1 : Int).toNat ((wrap64 (a1 + ((rdOf ByteArray.empty t252 x147_3).size : Int))) : Int).toNat).toList != (rdOf ByteArray.empty t252 x147_3).toList) = true := bne_iff_ne.mpr c103
                                      have H' := Aside0.mk H
                                      clear H
                                      have p255 : 0 ≤ (x147_3 : Int) := of_decide_eq_true (by first | (with_reducible assumption) | assumption)
                                      have q255 : x147_3 < (t252.length : Int) := of_decide_eq_true (by first | (with_reducible assumption) | assumption)
                                      obtain ⟨ad255, e255, hx255_0⟩ := Kd.at_string (Kd.R_reads' HO_145.out).2.2 x147_3 p255 q255
                                      cases e255
                                      replace p255 := eq_true p255
                                      replace q255 := eq_true q255
                                      go_wp2
                                      go_roundg k3
                                      case measure => have := HJ5.out; have := HJ40.out; have := HK3.out; omega
                                      case rel => exact ⟨(wrap64 (x147_3 + 1)), (x239000_3), (x239001_3), (x239002_3), (x239003_3), (by first | rfl | (simp; done) | (simp [*]; done)), H', ⟨by have := HJ5.out; have := HJ40.out; have := HK3.out; omega⟩, ⟨by (with_reducible repeat (first | apply Kd.R_alloc | apply Kd.R_drewN | apply Kd.R_drew)); exact HO_145.out⟩, ⟨by (with_reducible repeat (first | refine blk_drewN ?_ _ | refine blk_drew ?_ | refine blk_alloc ?_ _)); exact BK238.out⟩, ⟨by repeat (first | (with_reducible first | exact HB.out | apply below_alloc | apply pw_below_drewN | apply below_drew1 | refine below_set ?_ GE238.out) | exact HB.out)⟩⟩
                                  · rw [if_neg c101] at H
                                    exact absurd H (by simp)
                                · rw [if_neg c100] at H
                                  exact absurd H (by simp)
                              · rw [if_neg c99] at H
                                have c99b0 : decide ((wrap64 (a1 + ((rdOf ByteArray.empty t252 x147_3).size : Int))) ≤ (a0.size : Int)) = false := decide_eq_false c99
                                clear c99
                                have H' := Aside0.mk H
                                clear H
                                have p255 : 0 ≤ (x147_3 : Int) := of_decide_eq_true (by first | (with_reducible assumption) | assumption)
                                have q255 : x147_3 < (t252.length : Int) := of_decide_eq_true (by first | (with_reducible assumption) | assumption)
                                obtain ⟨ad255, e255, hx255_0⟩ := Kd.at_string (Kd.R_reads' HO_145.out).2.2 x147_3 p255 q255
                                cases e255
                                replace p255 := eq_true p255
                                replace q255 := eq_true q255
                                go_wp2
                                go_roundg k3
                                case measure => have := HJ5.out; have := HJ40.out; have := HK3.out; omega
                                case rel => exact ⟨(wrap64 (x147_3 + 1)), (x239000_3), (x239001_3), (x239002_3), (x239003_3), (by first | rfl | (simp; done) | (simp [*]; done)), H', ⟨by have := HJ5.out; have := HJ40.out; have := HK3.out; omega⟩, ⟨by (with_reducible repeat (first | apply Kd.R_alloc | apply Kd.R_drewN | apply Kd.R_drew)); exact HO_145.out⟩, ⟨by (with_reducible repeat (first | refine blk_drewN ?_ _ | refine blk_drew ?_ | refine blk_alloc ?_ _)); exact BK238.out⟩, ⟨by repeat (first | (with_reducible first | exact HB.out | apply below_alloc | apply pw_below_drewN | apply below_drew1 | refine below_set ?_ GE238.out) | exact HB.out)⟩⟩
                            · rw [if_neg c98] at H
                              exact absurd H (by simp)
                          · rw [if_neg c97] at H
                            exact absurd H (by simp)
                        · rw [if_neg c96] at H
                          have c96b0 : decide (x147_3 < (t252.length : Int)) = false := decide_eq_false c96
                          clear c96
                          simp only [Option.some.injEq, Prod.mk.injEq] at H
                          obtain ⟨rfl, rfl, rfl, rfl, rfl⟩ := H
                          have hcz105_0 : wr.cell? ⟨gb238, 0, none⟩ = some (.int .i64 x239000_3) := (blk_cell BK238.out 0).trans rfl
                          have hcz105_1 : wr.cell? ⟨gb238, 1, none⟩ = some (.string x239001_3) := (blk_cell BK238.out 1).trans rfl
                          have hcz105_2 : wr.cell? ⟨gb238, 2, none⟩ = some (.int .i64 x239002_3) := (blk_cell BK238.out 2).trans rfl
                          have hcz105_3 : wr.cell? ⟨gb238, 3, none⟩ = some (.int .i64 x239003_3) := (blk_cell BK238.out 3).trans rfl
                          have hfz105_0 := blk_frozen BK238.out 0
                          have hfz105_1 := blk_frozen BK238.out 1
                          have hfz105_2 := blk_frozen BK238.out 2
                          have hfz105_3 := blk_frozen BK238.out 3
                          go_wp2
                          refine bodyPost_ret (results_ct rfl _ _ gb238 32 #[.int .i64 0, .string (⟨#[]⟩ : ByteArray), .int .i64 0, .int .i64 0] (0, 0) _ rfl (by (with_reducible repeat (first | refine blk_drewN ?_ _ | refine blk_drew ?_ | refine blk_alloc ?_ _)); refine blk_put (cs := #[.int .i64 0, .string (⟨#[]⟩ : ByteArray), .int .i64 0, .int .i64 x239003_3]) ?_ 3 _ rfl; (with_reducible repeat (first | refine blk_drewN ?_ _ | refine blk_drew ?_ | refine blk_alloc ?_ _)); refine blk_put (cs := #[.int .i64 0, .string (⟨#[]⟩ : ByteArray), .int .i64 x239002_3, .int .i64 x239003_3]) ?_ 2 _ rfl; (with_reducible repeat (first | refine blk_drewN ?_ _ | refine blk_drew ?_ | refine blk_alloc ?_ _)); refine blk_put (cs := #[.int .i64 0, .string x239001_3, .int .i64 x239002_3, .int .i64 x239003_3]) ?_ 1 _ rfl; (with_reducible repeat (first | refine blk_drewN ?_ _ | refine blk_drew ?_ | refine blk_alloc ?_ _)); refine blk_put (cs := #[.int .i64 x239000_3, .string x239001_3, .int .i64 x239002_3, .int .i64 x239003_3]) ?_ 0 _ rfl; (with_reducible repeat (first | refine blk_drewN ?_ _ | refine blk_drew ?_ | refine blk_alloc ?_ _)); exact BK238.out) Tryd.underlying32 rfl (by kernel_rfl)) rfl ?_
                          exact ⟨by first | rfl | (simp [errW_none, errW_some] <;> rfl) | (simp [*, errW_none, errW_some] <;> rfl), by repeat (first | (with_reducible first | exact HB.out | apply below_alloc | apply pw_below_drewN | apply below_drew1 | refine below_set ?_ GE238.out) | exact HB.out)⟩
    · rw [if_neg c4] at H
      exact absurd H (by simp)
  · rw [if_neg c3] at H
    exact absurd H (by simp)
end Go.Proofs.YtdjcechogbcdnaaDoor.XL
namespace Go.Proofs.YtdjcechogbcdnaaDoor.XL
open Go.RowKit Go.Proofs.YtdjcechogbcdnaaDoorW.PrintWords Go.Proofs.YtdjcechogbcdnaaDoorW.PrintLast Go.Proofs.YtdjcechogbcdnaaDoorW.PrintMore
attribute [local go_sem] max2_int min2_int max_two min_two max_three min_three max_four min_four   -- for this text's walks alone
set_option linter.unusedVariables false
set_option linter.unusedSimpArgs false
attribute [local go_sem high] eqA32
def switchyardref07_Scan.l0 : Nat → ByteArray → List (S32) → Int → Option ((List (S32)) × Int × Int)
  | 0, _, _, _ => none
  | k + 1, x0, x5, x6 => if x6 < (x0.size : Int) then ((switchyardref07_token.f k x0 x6).bind fun bt260 => (if bt260.2.2.2.2 = 0 then (some (([] : List (S32)), x6, 24)) else (if x5.length < 3518437208883 then ((switchyardref07_Blanks.f k x0 (wrap64 (x6 + bt260.2.2.2.2))).bind fun t269 => (switchyardref07_Scan.l0 k x0 (x5 ++ [(⟨bt260.1, bt260.2.1, bt260.2.2.1, bt260.2.2.2.1⟩ : S32)]) (wrap64 ((wrap64 (x6 + bt260.2.2.2.2)) + t269)))) else (none)))) else (if x5.length < 3518437208883 then (some ((x5 ++ [(⟨0, (⟨#[]⟩ : ByteArray), 0, x6⟩ : S32)]), 0, 0)) else (none))
def switchyardref07_Scan.f (k : Nat) (a0 : ByteArray) : Option ((List (S32)) × Int × Int) := if (a0.size : Int) > 8000 then (some (([] : List (S32)), 0, 5)) else ((switchyardref07_Blanks.f k a0 0).bind fun t256 => (switchyardref07_Scan.l0 k a0 ([] : List (S32)) t256))
set_option maxHeartbeats 4000000 in
set_option maxRecDepth 100000 in
theorem switchyardref07_Scan.calls (k : Nat) (a0 : ByteArray) (r1 : List (S32)) (r2 : Int) (r3 : Int) (w : World) (h : switchyardref07_Scan.f k a0 = some (r1, r2, r3)) :
    Calls Tryd.prog 9 #[.string a0] w fun e w' => ∃ v0_ : Value, e = .returned (.tuple #[v0_, .int .i64 r2, .int .i64 r3]) ∧ Kd.R k32 32 w' w.heap.size (fun _ => True) v0_ r1 ∧ Below w.heap.size w w' := by
  have hu32 := Tryd.underlying32
  have HB := Aside0.mk (Below.refl w.heap.size w)
  have H : (if (a0.size : Int) > 8000 then (some (([] : List (S32)), 0, 5)) else ((switchyardref07_Blanks.f k a0 0).bind fun t256 => (switchyardref07_Scan.l0 k a0 ([] : List (S32)) t256))) = some (r1, r2, r3) := h
  clear h
  by_cases c2 : (a0.size : Int) > 8000
  · rw [if_pos c2] at H
    have c2b0 : decide (8000 < (a0.size : Int)) = true := decide_eq_true c2
    have c2b1 : decide (8000 < a0.size) = true := decide_eq_true (by omega)
    clear c2
    simp only [Option.some.injEq, Prod.mk.injEq] at H
    obtain ⟨rfl, rfl, rfl⟩ := H
    go_enter Tryd.func9, Tryd.ntmps9
    go_wp2
    go_ret3
    exact ⟨_, by first | rfl | (simp [errW_none, errW_some] <;> rfl) | (simp [*, errW_none, errW_some] <;> rfl), by first | exact Kd.R_nil _ _ _ _ _ | exact Kd.N_nil _ _ _ _ _ | exact Kd.V_nil _ _ _ _ _ | exact Kd.Q_nil _ _ _ _ _ | exact Kd.S_nil _ _ _ _ _, by repeat (first | (with_reducible first | exact HB.out | apply below_alloc | apply pw_below_drewN | apply below_drew1) | exact HB.out)⟩
  · rw [if_neg c2] at H
    have c2b0 : decide (8000 < (a0.size : Int)) = false := decide_eq_false c2
    have c2b1 : decide (8000 < a0.size) = false := decide_eq_false (by omega)
    clear c2
    replace H := Option.bind_eq_some_iff.mp H
    obtain ⟨t256, A30, H⟩ := H
    replace H : (switchyardref07_Scan.l0 k a0 ([] : List (S32)) t256) = some (r1, r2, r3) := H
    have A3 := Aside0.mk A30
    clear A30
    have H' := Aside0.mk H
    clear H
    go_enter Tryd.func9, Tryd.ntmps9
    go_wp2_with (first | ((with_reducible refine gate_callee (f := 14) rfl ?_); refine goesL_ (some 13) rfl rfl Tryd.func14 (by kernel_rfl) rfl #[.string a0, .int .i64 0] rfl (by (try simp only [List.map_toArray, List.map_cons, List.map_nil]); first | done | rfl | (simp only [List.length_drop, List.length_take]; rfl)) ?_; (with_reducible refine (switchyardref07_Blanks.calls k a0 0 t256 _ A3.out).mono ?_); rintro e w' ⟨rfl, ⟨nd, rfl⟩⟩; refine ⟨_, rfl, ?_⟩))
    go_loopg [5, 6] k (fun kq v5 v6 w' => ∃ (x5_1 : List (S32)) (x6_1 : Int), v6 = .int .i64 x6_1 ∧ Aside0 (switchyardref07_Scan.l0 kq a0 x5_1 x6_1 = some (r1, r2, r3)) ∧ Aside0 (kq ≤ k) ∧ Aside0 (Kd.R k32 32 w' w.heap.size (fun _ => True) v5 x5_1) ∧ Aside0 (Below w.heap.size w w'))
    case atStart => exact ⟨(([] : List (S32))), (t256), (by first | rfl | (simp; done) | (simp [*]; done)), H', ⟨Nat.le_refl _⟩, ⟨by first | exact Kd.R_nil _ _ _ _ _ | exact Kd.N_nil _ _ _ _ _ | exact Kd.V_nil _ _ _ _ _ | exact Kd.Q_nil _ _ _ _ _ | exact Kd.S_nil _ _ _ _ _⟩, ⟨by repeat (first | (with_reducible first | exact HB.out | apply below_alloc | apply pw_below_drewN | apply below_drew1) | exact HB.out)⟩⟩
    case round =>
      clear H'
      try clear c1
      try clear c2
      try clear c2b0
      try clear c2b1
      try clear p2
      obtain ⟨x5_1, x6_1, rfl, HA, HK1, HO_5, HB⟩ := hrel
      cases gk with
      | zero => exact absurd HA.out (by simp [switchyardref07_Scan.l0])
      | succ k1 =>
        have H := HA.out
        clear HA
        simp only [switchyardref07_Scan.l0] at H
        by_cases c4 : x6_1 < (a0.size : Int)
        · rw [if_pos c4] at H
          have c4b0 : decide (x6_1 < (a0.size : Int)) = true := decide_eq_true c4
          clear c4
          replace H := Option.bind_eq_some_iff.mp H
          obtain ⟨⟨t260, t261, t262, t263, t264⟩, A50, H⟩ := H
          replace H : (if t264 = 0 then (some (([] : List (S32)), x6_1, 24)) else (if x5_1.length < 3518437208883 then ((switchyardref07_Blanks.f k1 a0 (wrap64 (x6_1 + t264))).bind fun t269 => (switchyardref07_Scan.l0 k1 a0 (x5_1 ++ [(⟨t260, t261, t262, t263⟩ : S32)]) (wrap64 ((wrap64 (x6_1 + t264)) + t269)))) else (none))) = some (r1, r2, r3) := H
          have A5 := Aside0.mk A50
          clear A50
          by_cases c6 : t264 = 0
          · rw [if_pos c6] at H
            have c6b0 : (t264 == 0) = true := beq_iff_eq.mpr c6
            have c6b1 : (t264 != 0) = false := bne_eq_false_iff_eq.mpr c6
            clear c6
            simp only [Option.some.injEq, Prod.mk.injEq] at H
            obtain ⟨rfl, rfl, rfl⟩ := H
            go_wp2_with (first | ((with_reducible refine gate_callee (f := 15) rfl ?_); refine goesL_ (some 21) rfl rfl Tryd.func15 (by kernel_rfl) rfl #[.string a0, .int .i64 x6_1] rfl (by (try simp only [List.map_toArray, List.map_cons, List.map_nil]); first | done | rfl | (simp only [List.length_drop, List.length_take]; rfl)) ?_; (with_reducible refine (switchyardref07_token.calls k1 a0 x6_1 t260 t261 t262 t263 t264 _ A5.out).mono ?_); rintro e w7 ⟨rfl, hb⟩; refine ⟨_, rfl, ?_⟩; have n0_ := Aside0.mk (Kd.R_below (by (with_reducible repeat (first | apply Kd.R_alloc | apply Kd.R_drewN | apply Kd.R_drew)); exact HO_5.out) hb); have n1_ := Aside0.mk (below_step (by repeat (first | (with_reducible first | exact HB.out | apply below_alloc | apply pw_below_drewN | apply below_drew1) | exact HB.out)) hb); clear HO_5; clear HB; have HO_5 := n0_; have HB := n1_; clear n0_ n1_; (try clear hb); (try clear hb2); (try clear hk); (try clear hi)) | ((with_reducible refine gate_dst (N := 7) rfl ?_); refine box_event ?hg (N := 7) ?hd (cs := #[.int .i64 0, .string (⟨#[]⟩ : ByteArray), .int .i64 0, .int .i64 0]) (t := 32) ?hr ?_; (case hd => rfl); (case hg => rfl); (case hr => first | (go_simp; done) | (go_simp; rfl)); intro gb265 hg w8 hbox hb; have n0_ := Aside0.mk (Kd.R_below (Kd.R_elderB (by (with_reducible repeat (first | apply Kd.R_alloc | apply Kd.R_drewN | apply Kd.R_drew)); exact HO_5.out) gb265 (Nat.le_of_eq hg.symm)) hb); have n1_ := Aside0.mk (below_step (by repeat (first | (with_reducible first | exact HB.out | apply below_alloc | apply pw_below_drewN | apply below_drew1) | exact HB.out)) hb); have n2_ := Aside0.mk (hbox); have n3_ := Aside0.mk ((by rw [hg]; exact (below_size (by repeat (first | (with_reducible first | exact HB.out | apply below_alloc | apply pw_below_drewN | apply below_drew1) | exact HB.out))) : w.heap.size ≤ gb265)); have n4_ := Aside0.mk ((by rw [hg]; exact (below_size (by repeat (first | (with_reducible first | exact HB.out | apply below_alloc | apply pw_below_drewN | apply below_drew1) | exact HB.out))) : w.heap.size ≤ gb265)); clear HO_5; clear HB; have HO_5 := n0_; have HB := n1_; have BK265 := n2_; have GW265 := n3_; have GE265 := n4_; clear n0_ n1_ n2_ n3_ n4_; clear hb hbox hg; have hcz9_0 : w8.cell? ⟨gb265, 0, none⟩ = some (.int .i64 0) := (blk_cell BK265.out 0).trans rfl; have hcz9_1 : w8.cell? ⟨gb265, 1, none⟩ = some (.string (⟨#[]⟩ : ByteArray)) := (blk_cell BK265.out 1).trans rfl; have hcz9_2 : w8.cell? ⟨gb265, 2, none⟩ = some (.int .i64 0) := (blk_cell BK265.out 2).trans rfl; have hcz9_3 : w8.cell? ⟨gb265, 3, none⟩ = some (.int .i64 0) := (blk_cell BK265.out 3).trans rfl; have hfz9_0 := blk_frozen BK265.out 0; have hfz9_1 := blk_frozen BK265.out 1; have hfz9_2 := blk_frozen BK265.out 2; have hfz9_3 := blk_frozen BK265.out 3))
            go_ret3
            exact ⟨_, by first | rfl | (simp [errW_none, errW_some] <;> rfl) | (simp [*, errW_none, errW_some] <;> rfl), by first | exact Kd.R_nil _ _ _ _ _ | exact Kd.N_nil _ _ _ _ _ | exact Kd.V_nil _ _ _ _ _ | exact Kd.Q_nil _ _ _ _ _ | exact Kd.S_nil _ _ _ _ _, by repeat (first | (with_reducible first | exact HB.out | apply below_alloc | apply pw_below_drewN | apply below_drew1 | refine below_set ?_ GE265.out) | exact HB.out)⟩
          · rw [if_neg c6] at H
            have c6b0 : (t264 == 0) = false := beq_eq_false_iff_ne.mpr c6
            have c6b1 : (t264 != 0) = true := bne_iff_ne.mpr c6
            by_cases c10 : x5_1.length < 3518437208883
            · rw [if_pos c10] at H
              have LMc10 := Aside0.mk c10
              clear c10
              obtain ⟨y266, hy266⟩ : ∃ y_ : List (S32), y_ = (x5_1 ++ [(⟨t260, t261, t262, t263⟩ : S32)]) := ⟨_, rfl⟩
              replace H : ((switchyardref07_Blanks.f k1 a0 (wrap64 (x6_1 + t264))).bind fun t269 => (switchyardref07_Scan.l0 k1 a0 y266 (wrap64 ((wrap64 (x6_1 + t264)) + t269)))) = some (r1, r2, r3) := by first | (rw [hy266]; with_reducible exact H) | (have H2_ := (Option.bind_some _ _).symm.trans H; rw [hy266]; with_reducible exact H2_) | (have H2_ := (Option.bind_some _ _).symm.trans H; with_reducible exact H2_) | with_reducible exact H | (rw [hy266]; exact H) | exact H
              have Ny266 := Aside0.mk hy266
              clear hy266
              replace H := Option.bind_eq_some_iff.mp H
              obtain ⟨t269, A110, H⟩ := H
              replace H : (switchyardref07_Scan.l0 k1 a0 y266 (wrap64 ((wrap64 (x6_1 + t264)) + t269))) = some (r1, r2, r3) := H
              have A11 := Aside0.mk A110
              clear A110
              have H' := Aside0.mk H
              clear H
              go_wp2_with (first | ((with_reducible refine gate_callee (f := 15) rfl ?_); refine goesL_ (some 21) rfl rfl Tryd.func15 (by kernel_rfl) rfl #[.string a0, .int .i64 x6_1] rfl (by (try simp only [List.map_toArray, List.map_cons, List.map_nil]); first | done | rfl | (simp only [List.length_drop, List.length_take]; rfl)) ?_; (with_reducible refine (switchyardref07_token.calls k1 a0 x6_1 t260 t261 t262 t263 t264 _ A5.out).mono ?_); rintro e w12 ⟨rfl, hb⟩; refine ⟨_, rfl, ?_⟩; have n0_ := Aside0.mk (Kd.R_below (by (with_reducible repeat (first | apply Kd.R_alloc | apply Kd.R_drewN | apply Kd.R_drew)); exact HO_5.out) hb); have n1_ := Aside0.mk (below_step (by repeat (first | (with_reducible first | exact HB.out | apply below_alloc | apply pw_below_drewN | apply below_drew1) | exact HB.out)) hb); clear HO_5; clear HB; have HO_5 := n0_; have HB := n1_; clear n0_ n1_; (try clear hb); (try clear hb2); (try clear hk); (try clear hi)) | ((with_reducible refine gate_dst (N := 7) rfl ?_); refine box_event ?hg (N := 7) ?hd (cs := #[.int .i64 0, .string (⟨#[]⟩ : ByteArray), .int .i64 0, .int .i64 0]) (t := 32) ?hr ?_; (case hd => rfl); (case hg => rfl); (case hr => first | (go_simp; done) | (go_simp; rfl)); intro gb265 hg w13 hbox hb; have n0_ := Aside0.mk (Kd.R_below (Kd.R_elderB (by (with_reducible repeat (first | apply Kd.R_alloc | apply Kd.R_drewN | apply Kd.R_drew)); exact HO_5.out) gb265 (Nat.le_of_eq hg.symm)) hb); have n1_ := Aside0.mk (below_step (by repeat (first | (with_reducible first | exact HB.out | apply below_alloc | apply pw_below_drewN | apply below_drew1) | exact HB.out)) hb); have n2_ := Aside0.mk (hbox); have n3_ := Aside0.mk ((by rw [hg]; exact (below_size (by repeat (first | (with_reducible first | exact HB.out | apply below_alloc | apply pw_below_drewN | apply below_drew1) | exact HB.out))) : w.heap.size ≤ gb265)); have n4_ := Aside0.mk ((by rw [hg]; exact (below_size (by repeat (first | (with_reducible first | exact HB.out | apply below_alloc | apply pw_below_drewN | apply below_drew1) | exact HB.out))) : w.heap.size ≤ gb265)); clear HO_5; clear HB; have HO_5 := n0_; have HB := n1_; have BK265 := n2_; have GW265 := n3_; have GE265 := n4_; clear n0_ n1_ n2_ n3_ n4_; clear hb hbox hg; have hcz14_0 : w13.cell? ⟨gb265, 0, none⟩ = some (.int .i64 0) := (blk_cell BK265.out 0).trans rfl; have hcz14_1 : w13.cell? ⟨gb265, 1, none⟩ = some (.string (⟨#[]⟩ : ByteArray)) := (blk_cell BK265.out 1).trans rfl; have hcz14_2 : w13.cell? ⟨gb265, 2, none⟩ = some (.int .i64 0) := (blk_cell BK265.out 2).trans rfl; have hcz14_3 : w13.cell? ⟨gb265, 3, none⟩ = some (.int .i64 0) := (blk_cell BK265.out 3).trans rfl; have hfz14_0 := blk_frozen BK265.out 0; have hfz14_1 := blk_frozen BK265.out 1; have hfz14_2 := blk_frozen BK265.out 2; have hfz14_3 := blk_frozen BK265.out 3) | ((with_reducible refine gate_builtin (b := .append) (xs := #[.tmp 27, .tmp 29]) rfl ?_); at_builtin; refine Kd.R_append k32 (w0 := w) w.heap.size rfl (.tmp 27) (.tmp 29) 23 32 (.agg #[(.int .i64 0), (.string ⟨#[]⟩), (.int .i64 0), (.int .i64 0)]) 40 rfl Tryd.underlying23 info32 rfl (by decide) (by omega) u5 x5_1 (⟨t260, t261, t262, t263⟩ : S32) [.int .i64 t260, .string t261, .int .i64 t262, .int .i64 t263] (fun k_ => k_ ≠ gb265) (fun _ => False) rfl (by first | (go_simp; done) | (go_simp; rfl)) ?aP (fun _ hk => hk.elim) ?aF ?aO ?aB ?aS ?aL ?_; (case aP => exact k32_mkM _ _ _ (⟨t260, t261, t262, t263⟩ : S32)); (case aB => exact (by repeat (first | (with_reducible first | exact HB.out | apply below_alloc | apply pw_below_drewN | apply below_drew1 | refine below_set ?_ GE265.out) | exact HB.out))); (case aF => exact (fun k_ hk => Kd.freshB (g := gb265) (o := .cells #[.int .i64 t260, .string t261, .int .i64 t262, .int .i64 t263] 32 (0, 0)) (by (with_reducible repeat (first | refine blk_drewN ?_ _ | refine blk_drew ?_ | refine blk_alloc ?_ _)); refine blk_put (cs := #[.int .i64 t260, .string t261, .int .i64 t262, .int .i64 0]) ?_ 3 _ rfl; (with_reducible repeat (first | refine blk_drewN ?_ _ | refine blk_drew ?_ | refine blk_alloc ?_ _)); refine blk_put (cs := #[.int .i64 t260, .string t261, .int .i64 0, .int .i64 0]) ?_ 2 _ rfl; (with_reducible repeat (first | refine blk_drewN ?_ _ | refine blk_drew ?_ | refine blk_alloc ?_ _)); refine blk_put (cs := #[.int .i64 t260, .string (⟨#[]⟩ : ByteArray), .int .i64 0, .int .i64 0]) ?_ 1 _ rfl; (with_reducible repeat (first | refine blk_drewN ?_ _ | refine blk_drew ?_ | refine blk_alloc ?_ _)); refine blk_put (cs := #[.int .i64 0, .string (⟨#[]⟩ : ByteArray), .int .i64 0, .int .i64 0]) ?_ 0 _ rfl; (with_reducible repeat (first | refine blk_drewN ?_ _ | refine blk_drew ?_ | refine blk_alloc ?_ _)); exact BK265.out) k_ hk)); (case aO => exact (by (with_reducible repeat (first | apply Kd.R_alloc | apply Kd.R_drewN | apply Kd.R_drew)); exact Kd.R_mono (Kd.R_far (p := ⟨gb265, 3, none⟩) (Kd.R_far (p := ⟨gb265, 2, none⟩) (Kd.R_far (p := ⟨gb265, 1, none⟩) (Kd.R_far (p := ⟨gb265, 0, none⟩) (Kd.R_mono HO_5.out (fun k_ hk => (⟨hk, hk.2⟩ : _ ∧ k_ ≠ gb265))) (fun _ hk => hk.2) (.int .i64 t260)) (fun _ hk => hk.2) (.string t261)) (fun _ hk => hk.2) (.int .i64 t262)) (fun _ hk => hk.2) (.int .i64 t263)) (fun _ hk => hk.1.2))); (case aS => exact (below_size (by repeat (first | (with_reducible first | exact HB.out | apply below_alloc | apply pw_below_drewN | apply below_drew1 | refine below_set ?_ GE265.out) | exact HB.out)))); (case aL => have := LMc10.out; omega); intro v267 w15 ho hb hg hat; rw [← Ny266.out] at ho; have n0_ := Aside0.mk (blk_grown (g := gb265) (o := .cells #[.int .i64 t260, .string t261, .int .i64 t262, .int .i64 t263] 32 (0, 0)) (by (with_reducible repeat (first | refine blk_drewN ?_ _ | refine blk_drew ?_ | refine blk_alloc ?_ _)); refine blk_put (cs := #[.int .i64 t260, .string t261, .int .i64 t262, .int .i64 0]) ?_ 3 _ rfl; (with_reducible repeat (first | refine blk_drewN ?_ _ | refine blk_drew ?_ | refine blk_alloc ?_ _)); refine blk_put (cs := #[.int .i64 t260, .string t261, .int .i64 0, .int .i64 0]) ?_ 2 _ rfl; (with_reducible repeat (first | refine blk_drewN ?_ _ | refine blk_drew ?_ | refine blk_alloc ?_ _)); refine blk_put (cs := #[.int .i64 t260, .string (⟨#[]⟩ : ByteArray), .int .i64 0, .int .i64 0]) ?_ 1 _ rfl; (with_reducible repeat (first | refine blk_drewN ?_ _ | refine blk_drew ?_ | refine blk_alloc ?_ _)); refine blk_put (cs := #[.int .i64 0, .string (⟨#[]⟩ : ByteArray), .int .i64 0, .int .i64 0]) ?_ 0 _ rfl; (with_reducible repeat (first | refine blk_drewN ?_ _ | refine blk_drew ?_ | refine blk_alloc ?_ _)); exact BK265.out) hg (Kd.R_away HO_5.out (fun _ hk => hk.2))); have n1_ := Aside0.mk (hb); have n2_ := Aside0.mk (ho); clear BK265; clear HB; clear HO_5; have BK265 := n0_; have HB := n1_; have HO268 := n2_; clear n0_ n1_ n2_; clear ho hb hg hat) | ((with_reducible refine gate_callee (f := 14) rfl ?_); refine goesL_ (some 37) rfl rfl Tryd.func14 (by kernel_rfl) rfl #[.string a0, .int .i64 (wrap64 (x6_1 + t264))] rfl (by (try simp only [List.map_toArray, List.map_cons, List.map_nil]); first | done | rfl | (simp only [List.length_drop, List.length_take]; rfl)) ?_; (with_reducible refine (switchyardref07_Blanks.calls k1 a0 (wrap64 (x6_1 + t264)) t269 _ A11.out).mono ?_); rintro e w' ⟨rfl, ⟨nd, rfl⟩⟩; refine ⟨_, rfl, ?_⟩))
              go_roundg k1
              case measure => have := HK1.out; omega
              case rel => exact ⟨(y266), (wrap64 ((wrap64 (x6_1 + t264)) + t269)), (by first | rfl | (simp; done) | (simp [*]; done)), H', ⟨by have := HK1.out; omega⟩, ⟨by (with_reducible repeat (first | apply Kd.R_alloc | apply Kd.R_drewN | apply Kd.R_drew)); exact Kd.R_mono HO268.out (fun _ hk => trivial)⟩, ⟨by repeat (first | (with_reducible first | exact HB.out | apply below_alloc | apply pw_below_drewN | apply below_drew1 | refine below_set ?_ GE265.out) | exact HB.out)⟩⟩
            · rw [if_neg c10] at H
              exact absurd H (by simp)
        · rw [if_neg c4] at H
          have c4b0 : decide (x6_1 < (a0.size : Int)) = false := decide_eq_false c4
          clear c4
          by_cases c16 : x5_1.length < 3518437208883
          · rw [if_pos c16] at H
            have LMc16 := Aside0.mk c16
            clear c16
            obtain ⟨y257, hy257⟩ : ∃ y_ : List (S32), y_ = (x5_1 ++ [(⟨0, (⟨#[]⟩ : ByteArray), 0, x6_1⟩ : S32)]) := ⟨_, rfl⟩
            replace H : (some (y257, 0, 0)) = some (r1, r2, r3) := by first | (rw [hy257]; with_reducible exact H) | (have H2_ := (Option.bind_some _ _).symm.trans H; rw [hy257]; with_reducible exact H2_) | (have H2_ := (Option.bind_some _ _).symm.trans H; with_reducible exact H2_) | with_reducible exact H | (rw [hy257]; exact H) | exact H
            have Ny257 := Aside0.mk hy257
            clear hy257
            simp only [Option.some.injEq, Prod.mk.injEq] at H
            obtain ⟨rfl, rfl, rfl⟩ := H
            go_wp2_with (first | ((with_reducible refine gate_builtin (b := .append) (xs := #[.tmp 39, .tmp 42]) rfl ?_); at_builtin; refine Kd.R_append k32 (w0 := w) w.heap.size rfl (.tmp 39) (.tmp 42) 23 32 (.agg #[(.int .i64 0), (.string ⟨#[]⟩), (.int .i64 0), (.int .i64 0)]) 40 rfl Tryd.underlying23 info32 rfl (by decide) (by omega) u5 x5_1 (⟨0, (⟨#[]⟩ : ByteArray), 0, x6_1⟩ : S32) [.int .i64 0, .string (⟨#[]⟩ : ByteArray), .int .i64 0, .int .i64 x6_1] (fun _ => True) (fun _ => False) rfl rfl ?aP (fun _ hk => hk.elim) ?aF ?aO ?aB ?aS ?aL ?_; (case aP => exact k32_mkM _ _ _ (⟨0, (⟨#[]⟩ : ByteArray), 0, x6_1⟩ : S32)); (case aB => exact (by repeat (first | (with_reducible first | exact HB.out | apply below_alloc | apply pw_below_drewN | apply below_drew1) | exact HB.out))); (case aF => exact (fun _ _ => trivial)); (case aO => exact (by (with_reducible repeat (first | apply Kd.R_alloc | apply Kd.R_drewN | apply Kd.R_drew)); exact HO_5.out)); (case aS => exact (below_size (by repeat (first | (with_reducible first | exact HB.out | apply below_alloc | apply pw_below_drewN | apply below_drew1) | exact HB.out)))); (case aL => have := LMc16.out; omega); intro v258 w17 ho hb hg hat; rw [← Ny257.out] at ho; have n0_ := Aside0.mk (hb); have n1_ := Aside0.mk (ho); clear HB; clear HO_5; have HB := n0_; have HO259 := n1_; clear n0_ n1_; clear ho hb hg hat))
            go_ret3
            exact ⟨_, by first | rfl | (simp [errW_none, errW_some] <;> rfl) | (simp [*, errW_none, errW_some] <;> rfl), by (with_reducible repeat (first | apply Kd.R_alloc | apply Kd.R_drewN | apply Kd.R_drew)); exact HO259.out, by repeat (first | (with_reducible first | exact HB.out | apply below_alloc | apply pw_below_drewN | apply below_drew1) | exact HB.out)⟩
          · rw [if_neg c16] at H
            exact absurd H (by simp)
def switchyardref07_Same.l0 : Nat → List (S32) → List (S32) → Int → Int → Option (Bool)
  | 0, _, _, _, _ => none
  | k + 1, x0, x1, x12, x13 => if x13 < x12 then (if 0 ≤ x13 then (if x13 < (x0.length : Int) then (if x13 < (x1.length : Int) then (if (!(((rd_T32 x0 x13).f0) == ((rd_T32 x1 x13).f0)) || (!((((rd_T32 x0 x13).f1).toList) == (((rd_T32 x1 x13).f1).toList)) || (!(((rd_T32 x0 x13).f2) == ((rd_T32 x1 x13).f2)) || (!(((rd_T32 x0 x13).f3) == ((rd_T32 x1 x13).f3)))))) = true then (some false) else (switchyardref07_Same.l0 k x0 x1 x12 (wrap64 (x13 + 1)))) else (none)) else (none)) else (none)) else (some true)
def switchyardref07_Same.f (k : Nat) (l0 : List (S32)) (l1 : List (S32)) : Option (Bool) := if (l0.length : Int) = (l1.length : Int) then (switchyardref07_Same.l0 k l0 l1 (l0.length : Int) 0) else (some false)
set_option maxHeartbeats 4000000 in
set_option maxRecDepth 100000 in
theorem switchyardref07_Same.calls (k : Nat) (A0 : Option Addr) (c0 : Nat) (l0 : List (S32)) (A1 : Option Addr) (c1 : Nat) (l1 : List (S32)) (r : Bool) (w : World) (hr0 : Kd.C k32 w A0 l0.length l0) (hc0 : l0.length ≤ c0) (hr1 : Kd.C k32 w A1 l1.length l1) (hc1 : l1.length ≤ c1) (h : switchyardref07_Same.f k l0 l1 = some r) :
    Calls Tryd.prog 10 #[.slice A0 l0.length c0, .slice A1 l1.length c1] w fun e w' => e = .returned (.bool r) ∧ Drawn0 w w' := by
  have hu32 := Tryd.underlying32
  have HR0 := Aside0.mk hr0
  have HC0 := Aside0.mk hc0
  clear hr0 hc0
  have HR1 := Aside0.mk hr1
  have HC1 := Aside0.mk hc1
  clear hr1 hc1
  have H : (if (l0.length : Int) = (l1.length : Int) then (switchyardref07_Same.l0 k l0 l1 (l0.length : Int) 0) else (some false)) = some r := h
  clear h
  by_cases c3 : (l0.length : Int) = (l1.length : Int)
  · rw [if_pos c3] at H
    have c3b0 : ((l0.length : Int) == (l1.length : Int)) = true := beq_iff_eq.mpr c3
    have c3b1 : ((l0.length : Int) != (l1.length : Int)) = false := bne_eq_false_iff_eq.mpr c3
    have c3b2 : (l0.length == l1.length) = true := by first | simpa using c3 | (simp at c3 ⊢; omega)
    clear c3
    have H' := Aside0.mk H
    clear H
    go_enter Tryd.func10, Tryd.ntmps10
    go_wp2
    repeat (go_quiet (fail); try go_wp2)
    go_loopg [13] k (fun kq v13 w' => ∃ (x13_1 : Int), v13 = .int .i64 x13_1 ∧ Aside0 (switchyardref07_Same.l0 kq l0 l1 (l0.length : Int) x13_1 = some r) ∧ Aside0 (kq ≤ k) ∧ Drawn0 w w')
    case atStart => exact ⟨(0), (by first | rfl | (simp; done) | (simp [*]; done)), H', ⟨Nat.le_refl _⟩, by repeat (first | exact Drawn0.refl _ | apply Drawn0.step)⟩
    case round =>
      clear H'
      try clear c1
      try clear p2
      try clear c3
      try clear c3b0
      try clear c3b1
      try clear c3b2
      obtain ⟨x13_1, rfl, HA, HK1, ⟨m1, rfl⟩⟩ := hrel
      cases gk with
      | zero => exact absurd HA.out (by simp [switchyardref07_Same.l0])
      | succ k1 =>
        have H := HA.out
        clear HA
        simp only [switchyardref07_Same.l0] at H
        by_cases c4 : x13_1 < (l0.length : Int)
        · rw [if_pos c4] at H
          have c4b0 : decide (x13_1 < (l0.length : Int)) = true := decide_eq_true c4
          clear c4
          by_cases c5 : 0 ≤ x13_1
          · rw [if_pos c5] at H
            have c5b0 : decide (0 ≤ x13_1) = true := decide_eq_true c5
            clear c5
            by_cases c6 : x13_1 < (l0.length : Int)
            · rw [if_pos c6] at H
              have c6b0 : decide (x13_1 < (l0.length : Int)) = true := decide_eq_true c6
              clear c6
              by_cases c7 : x13_1 < (l1.length : Int)
              · rw [if_pos c7] at H
                have c7b0 : decide (x13_1 < (l1.length : Int)) = true := decide_eq_true c7
                clear c7
                by_cases c8 : (!(((rd_T32 l0 x13_1).f0) == ((rd_T32 l1 x13_1).f0)) || (!((((rd_T32 l0 x13_1).f1).toList) == (((rd_T32 l1 x13_1).f1).toList)) || (!(((rd_T32 l0 x13_1).f2) == ((rd_T32 l1 x13_1).f2)) || (!(((rd_T32 l0 x13_1).f3) == ((rd_T32 l1 x13_1).f3)))))) = true
                · rw [if_pos c8] at H
                  have c8b0 : (!(((rd_T32 l0 x13_1).f0) == ((rd_T32 l1 x13_1).f0)) || (!((((rd_T32 l0 x13_1).f1).toList) == (((rd_T32 l1 x13_1).f1).toList)) || (!(((rd_T32 l0 x13_1).f2) == ((rd_T32 l1 x13_1).f2)) || (!(((rd_T32 l0 x13_1).f3) == ((rd_T32 l1 x13_1).f3)))))) = true := c8
                  clear c8
                  obtain rfl := Option.some.inj H
                  have p270 : 0 ≤ (x13_1 : Int) := of_decide_eq_true (by first | (with_reducible assumption) | assumption)
                  have q270 : x13_1 < (l0.length : Int) := of_decide_eq_true (by first | (with_reducible assumption) | assumption)
                  obtain ⟨ad270, e270, hx270_0, hx270_1, hx270_2, hx270_3⟩ := at_T32 HR0.out x13_1 p270 q270
                  cases e270
                  replace p270 := eq_true p270
                  replace q270 := eq_true q270
                  have p271 : 0 ≤ (x13_1 : Int) := of_decide_eq_true (by first | (with_reducible assumption) | assumption)
                  have q271 : x13_1 < (l1.length : Int) := of_decide_eq_true (by first | (with_reducible assumption) | assumption)
                  obtain ⟨ad271, e271, hx271_0, hx271_1, hx271_2, hx271_3⟩ := at_T32 HR1.out x13_1 p271 q271
                  cases e271
                  replace p271 := eq_true p271
                  replace q271 := eq_true q271
                  go_wp2
                  repeat (go_quiet (fail); try go_wp2)
                  go_ret
                  exact ⟨by first | rfl | (simp; done) | (simp [*]; done), by repeat (first | exact Drawn0.refl _ | apply Drawn0.step)⟩
                · rw [if_neg c8] at H
                  have c8b0 : (!(((rd_T32 l0 x13_1).f0) == ((rd_T32 l1 x13_1).f0)) || (!((((rd_T32 l0 x13_1).f1).toList) == (((rd_T32 l1 x13_1).f1).toList)) || (!(((rd_T32 l0 x13_1).f2) == ((rd_T32 l1 x13_1).f2)) || (!(((rd_T32 l0 x13_1).f3) == ((rd_T32 l1 x13_1).f3)))))) = false := by simpa using c8
                  clear c8
                  have H' := Aside0.mk H
                  clear H
                  have p270 : 0 ≤ (x13_1 : Int) := of_decide_eq_true (by first | (with_reducible assumption) | assumption)
                  have q270 : x13_1 < (l0.length : Int) := of_decide_eq_true (by first | (with_reducible assumption) | assumption)
                  obtain ⟨ad270, e270, hx270_0, hx270_1, hx270_2, hx270_3⟩ := at_T32 HR0.out x13_1 p270 q270
                  cases e270
                  replace p270 := eq_true p270
                  replace q270 := eq_true q270
                  have p271 : 0 ≤ (x13_1 : Int) := of_decide_eq_true (by first | (with_reducible assumption) | assumption)
                  have q271 : x13_1 < (l1.length : Int) := of_decide_eq_true (by first | (with_reducible assumption) | assumption)
                  obtain ⟨ad271, e271, hx271_0, hx271_1, hx271_2, hx271_3⟩ := at_T32 HR1.out x13_1 p271 q271
                  cases e271
                  replace p271 := eq_true p271
                  replace q271 := eq_true q271
                  go_wp2
                  repeat (go_quiet (fail); try go_wp2)
                  go_roundg k1
                  case measure => have := HK1.out; omega
                  case rel => exact ⟨(wrap64 (x13_1 + 1)), (by first | rfl | (simp; done) | (simp [*]; done)), H', ⟨by have := HK1.out; omega⟩, by repeat (first | exact Drawn0.refl _ | apply Drawn0.step)⟩
              · rw [if_neg c7] at H
                exact absurd H (by simp)
            · rw [if_neg c6] at H
              exact absurd H (by simp)
          · rw [if_neg c5] at H
            exact absurd H (by simp)
        · rw [if_neg c4] at H
          have c4b0 : decide (x13_1 < (l0.length : Int)) = false := decide_eq_false c4
          clear c4
          obtain rfl := Option.some.inj H
          go_wp2
          repeat (go_quiet (fail); try go_wp2)
          go_ret
          exact ⟨by first | rfl | (simp; done) | (simp [*]; done), by repeat (first | exact Drawn0.refl _ | apply Drawn0.step)⟩
  · rw [if_neg c3] at H
    have c3b0 : ((l0.length : Int) == (l1.length : Int)) = false := beq_eq_false_iff_ne.mpr c3
    have c3b1 : ((l0.length : Int) != (l1.length : Int)) = true := bne_iff_ne.mpr c3
    have c3b2 : (l0.length == l1.length) = false := by first | simpa using c3 | (simp at c3 ⊢; omega)
    obtain rfl := Option.some.inj H
    go_enter Tryd.func10, Tryd.ntmps10
    go_wp2
    repeat (go_quiet (fail); try go_wp2)
    go_ret
    exact ⟨by first | rfl | (simp; done) | (simp [*]; done), by repeat (first | exact Drawn0.refl _ | apply Drawn0.step)⟩
end Go.Proofs.YtdjcechogbcdnaaDoor.XL
namespace Go.Proofs.YtdjcechogbcdnaaDoor.XL
open Go.RowKit Go.Proofs.YtdjcechogbcdnaaDoorW.PrintWords Go.Proofs.YtdjcechogbcdnaaDoorW.PrintLast Go.Proofs.YtdjcechogbcdnaaDoorW.PrintMore
set_option linter.unusedVariables false
set_option linter.unusedSimpArgs false
theorem w_sub {a b : Nat} (h : b ≤ a) (ha : a ≤ 4611686018427387904) : wrap64 ((a : Int) - (b : Int)) = ((a - b : Nat) : Int) := by unfold wrap64; omega
theorem w_add {a b : Nat} (h : a + b ≤ 4611686018427387904) : wrap64 ((a : Int) + (b : Int)) = ((a + b : Nat) : Int) := by unfold wrap64; omega
theorem cc_iff (c : UInt8) (n : Nat) (hn : n < 256) : ((c.toNat : Int) = (n : Int)) ↔ c = UInt8.ofNat n := c_eq hn
theorem blank_cases (c : UInt8) : blankC c = true ↔ (c = 9 ∨ c = 10 ∨ c = 13 ∨ c = 32) := by
  unfold blankC
  simp only [Bool.or_eq_true, beq_iff_eq, or_assoc]
theorem dblank_both (l : List UInt8) (hl : l.length ≤ 4611686018427387900) (a : Nat) : ∀ d i : Nat, l.length - i ≤ d → i ≤ l.length → a ≤ i → Ev (fun k => switchyardref07_Blanks.l0 k (mk l) (a : Int) (i : Int)) ((i + bm false (l.drop i) - a : Nat) : Int) ∧ Ev (fun k => switchyardref07_Blanks.l1 k (mk l) (a : Int) (i : Int)) ((i + bm true (l.drop i) - a : Nat) : Int) := by
  have stop : ∀ i, i = l.length → a ≤ i → Ev (fun k => switchyardref07_Blanks.l0 k (mk l) (a : Int) (i : Int)) ((i + bm false (l.drop i) - a : Nat) : Int) ∧ Ev (fun k => switchyardref07_Blanks.l1 k (mk l) (a : Int) (i : Int)) ((i + bm true (l.drop i) - a : Nat) : Int) := by
    intro i hi ha
    have h0 : Ev (fun k => switchyardref07_Blanks.l0 k (mk l) (a : Int) (i : Int)) ((i - a : Nat) : Int) := by
      refine Ev.step (fun k => by simp only [switchyardref07_Blanks.l0]; rfl) (Ev.neg (by rw [mk_size]; omega) (Ev.val ?_))
      exact w_sub ha (by omega)
    rw [List.drop_eq_nil_of_le (by omega)]
    refine ⟨by simpa [bm] using h0, ?_⟩
    exact Ev.step (fun k => by simp only [switchyardref07_Blanks.l1]; rfl) (Ev.neg (by rw [mk_size]; omega) (by simpa [bm] using h0))
  intro d
  induction d with
  | zero => intro i hd hi ha; exact stop i (by omega) ha
  | succ d ih =>
    intro i hd hi ha
    by_cases hlt : i < l.length
    · have hdr := List.drop_eq_getElem_cons hlt
      generalize l[i] = c at hdr
      obtain ⟨_, hb⟩ := bt_drop hdr
      obtain ⟨ihA, ihB⟩ := ih (i + 1) (by omega) (by omega) (by omega)
      have A : Ev (fun k => switchyardref07_Blanks.l0 k (mk l) (a : Int) (i : Int)) ((i + bm false (l.drop i) - a : Nat) : Int) := by
        rw [hdr]
        have j1t : blankC c = true → Ev (fun k => switchyardref07_Blanks.j1 k (mk l) (a : Int) (i : Int) true) ((i + bm false (c :: l.drop (i + 1)) - a : Nat) : Int) := by
          intro hc
          refine Ev.step (fun k => by simp only [switchyardref07_Blanks.j1]; rfl) ?_
          refine Ev.pos (by trivial) ?_
          rw [wr_succ hlt (by omega)]
          simp only [bm, hc, if_true]
          rw [show i + (1 + bm false (l.drop (i + 1))) - a = i + 1 + bm false (l.drop (i + 1)) - a by omega]
          exact ihA
        have j1f : ¬ blankC c = true → Ev (fun k => switchyardref07_Blanks.j1 k (mk l) (a : Int) (i : Int) false) ((i + bm false (c :: l.drop (i + 1)) - a : Nat) : Int) := by
          intro hc
          have hs : wrap64 ((i : Int) + 1) = ((i + 1 : Nat) : Int) := wr_succ hlt (by omega)
          refine Ev.step (fun k => by simp only [switchyardref07_Blanks.j1]; rfl) (Ev.neg (by simp) ?_)
          have j2t : c = 47 ∧ (l.drop (i + 1)).head? = some 47 → Ev (fun k => switchyardref07_Blanks.j2 k (mk l) (a : Int) (i : Int) true) ((i + bm false (c :: l.drop (i + 1)) - a : Nat) : Int) := by
            intro hcm
            refine Ev.step (fun k => by simp only [switchyardref07_Blanks.j2]; rfl) ?_
            refine Ev.pos (by trivial) ?_
            refine Ev.step (fun k => by simp only [switchyardref07_Blanks.l1]; rfl) (Ev.pos (by rw [mk_size]; omega) (Ev.pos (by omega) (Ev.neg (by rw [hb, hcm.1]; decide) ?_)))
            rw [hs]
            simp only [bm]
            rw [if_neg hc, if_pos hcm, show i + (1 + bm true (l.drop (i + 1))) - a = i + 1 + bm true (l.drop (i + 1)) - a by omega]
            exact ihB
          have j2f : ¬ (c = 47 ∧ (l.drop (i + 1)).head? = some 47) → Ev (fun k => switchyardref07_Blanks.j2 k (mk l) (a : Int) (i : Int) false) ((i + bm false (c :: l.drop (i + 1)) - a : Nat) : Int) := by
            intro hcm
            refine Ev.step (fun k => by simp only [switchyardref07_Blanks.j2]; rfl) (Ev.neg (by simp) (Ev.val ?_))
            simp only [bm]
            rw [if_neg hc, if_neg hcm]
            exact w_sub ha (by omega)
          by_cases h2 : i + 1 < l.length
          · have h2w : wrap64 ((i : Int) + 2) = ((i + 2 : Nat) : Int) := by unfold wrap64; omega
            have hdr2 := List.drop_eq_getElem_cons h2
            generalize l[i + 1] = e at hdr2
            have hx : (mk l).extract ((i : Int)).toNat (((i + 2 : Nat) : Int)).toNat = mk [c, e] := by
              rw [Int.toNat_natCast, Int.toNat_natCast, mk_ext, List.drop_take, hdr, hdr2, show i + 2 - i = 2 by omega]; rfl
            rw [hs, h2w, hx, mkT]
            clear hs h2w hx
            refine Ev.pos (by rw [mk_size]; omega) (Ev.pos (by omega) (Ev.pos (by omega) (Ev.pos (by rw [mk_size]; omega) ?_)))
            by_cases hcm : c = 47 ∧ e = 47
            · rw [show (([c, e] : List UInt8) == [47, 47]) = true by rw [hcm.1, hcm.2]; rfl]
              exact j2t ⟨hcm.1, by rw [hdr2, hcm.2]; rfl⟩
            · rw [show (([c, e] : List UInt8) == [47, 47]) = false by
                rw [beq_eq_false_iff_ne]; intro h; simp only [List.cons.injEq, and_true] at h; exact hcm h]
              exact j2f (fun h => hcm ⟨h.1, by have := h.2; rw [hdr2] at this; exact Option.some.inj this⟩)
          · rw [hs]
            clear hs
            refine Ev.neg (by rw [mk_size]; omega) (j2f ?_)
            rw [List.drop_eq_nil_of_le (by omega)]
            rintro ⟨_, h⟩; cases h
        refine Ev.step (fun k => by simp only [switchyardref07_Blanks.l0]; rfl) ?_
        rw [hb]
        refine Ev.pos (by rw [mk_size]; omega) (Ev.pos (by omega) ?_)
        by_cases h9 : c = 9
        · exact Ev.pos ((cc_iff c 9 (by decide)).2 h9) (j1t ((blank_cases c).2 (Or.inl h9)))
        · refine Ev.neg (fun h => h9 ((cc_iff c 9 (by decide)).1 h)) ?_
          by_cases h10 : c = 10
          · exact Ev.pos ((cc_iff c 10 (by decide)).2 h10) (j1t ((blank_cases c).2 (Or.inr (Or.inl h10))))
          · refine Ev.neg (fun h => h10 ((cc_iff c 10 (by decide)).1 h)) ?_
            by_cases h13 : c = 13
            · exact Ev.pos ((cc_iff c 13 (by decide)).2 h13) (j1t ((blank_cases c).2 (Or.inr (Or.inr (Or.inl h13)))))
            · refine Ev.neg (fun h => h13 ((cc_iff c 13 (by decide)).1 h)) ?_
              by_cases h32 : c = 32
              · rw [show ((c.toNat : Int) == 32) = true from beq_iff_eq.2 ((cc_iff c 32 (by decide)).2 h32)]
                exact j1t ((blank_cases c).2 (Or.inr (Or.inr (Or.inr h32))))
              · rw [show ((c.toNat : Int) == 32) = false from beq_eq_false_iff_ne.2 (fun h => h32 ((cc_iff c 32 (by decide)).1 h))]
                exact j1f (fun h => by rcases (blank_cases c).1 h with h | h | h | h <;> contradiction)
      refine ⟨A, ?_⟩
      refine Ev.step (fun k => by simp only [switchyardref07_Blanks.l1]; rfl) ?_
      rw [hb, wr_succ hlt (by omega)]
      refine Ev.pos (by rw [mk_size]; omega) (Ev.pos (by omega) ?_)
      by_cases h10 : c = 10
      · refine Ev.pos ((cc_iff c 10 (by decide)).2 h10) ?_
        have e : bm true (l.drop i) = bm false (l.drop i) := by rw [hdr, h10]; simp [bm, blankC]
        rw [e]; exact A
      · refine Ev.neg (fun h => h10 ((cc_iff c 10 (by decide)).1 h)) ?_
        rw [hdr]
        simp only [bm]
        rw [if_neg h10, show i + (1 + bm true (l.drop (i + 1))) - a = i + 1 + bm true (l.drop (i + 1)) - a by omega]
        exact ihB
    · exact stop i (by omega) ha
theorem dblanks_ev (l : List UInt8) (hl : l.length ≤ 8000) (i : Nat) (hi : i ≤ l.length) : Ev (fun k => switchyardref07_Blanks.f k (mk l) (i : Int)) ((bm false (l.drop i) : Nat) : Int) := by
  have := (dblank_both l (by omega) i _ i (Nat.le_refl _) hi (Nat.le_refl _)).1
  rw [show i + bm false (l.drop i) - i = bm false (l.drop i) by omega] at this
  exact this
theorem valA_eq : ∀ (l : List UInt8) (acc : Nat), valA acc l = acc * 10 ^ l.length + valD l
  | [], acc => by simp [valA, valD]
  | c :: r, acc => by
    have h1 := valA_eq r (10 * acc + (c.toNat - 48))
    have h2 := valA_eq r (10 * 0 + (c.toNat - 48))
    have e1 : valA acc (c :: r) = valA (10 * acc + (c.toNat - 48)) r := rfl
    have e2 : valD (c :: r) = valA (10 * 0 + (c.toNat - 48)) r := rfl
    rw [e1, e2, h1, h2, List.length_cons, Nat.pow_succ, Nat.add_mul, Nat.mul_zero, Nat.zero_add]
    have : 10 * acc * 10 ^ r.length = acc * (10 ^ r.length * 10) := by
      rw [Nat.mul_comm 10 acc, Nat.mul_assoc, Nat.mul_comm 10]
    omega
theorem dig_bounds {c : UInt8} (h : digC c = true) : 48 ≤ c.toNat ∧ c.toNat ≤ 57 := of_decide_eq_true h
theorem valD_cons (c : UInt8) (r : List UInt8) : valD (c :: r) = (c.toNat - 48) * 10 ^ r.length + valD r := by
  have e2 : valD (c :: r) = valA (10 * 0 + (c.toNat - 48)) r := rfl
  rw [e2, valA_eq, Nat.mul_zero, Nat.zero_add]
theorem valD_lt : ∀ (l : List UInt8), (∀ c ∈ l, digC c = true) → valD l < 10 ^ l.length
  | [], _ => by simp [valD]
  | c :: r, h => by
    have h1 := valD_lt r (fun x hx => h x (List.mem_cons_of_mem _ hx))
    obtain ⟨h2, h3⟩ := dig_bounds (h c List.mem_cons_self)
    rw [valD_cons, List.length_cons, Nat.pow_succ]
    have : (c.toNat - 48) * 10 ^ r.length ≤ 9 * 10 ^ r.length := Nat.mul_le_mul_right _ (by omega)
    omega
theorem less_val : ∀ (a b : List UInt8), a.length = b.length → (∀ c ∈ a, digC c = true) → (∀ c ∈ b, digC c = true) → Op.bytesLess a b = decide (valD a < valD b)
  | [], [], _, _, _ => by simp [Op.bytesLess, valD]
  | [], _ :: _, h, _, _ => by simp at h
  | _ :: _, [], h, _, _ => by simp at h
  | x :: a, y :: b, h, ha, hb => by
    have hl : a.length = b.length := by simpa using h
    have ih := less_val a b hl (fun c hc => ha c (List.mem_cons_of_mem _ hc)) (fun c hc => hb c (List.mem_cons_of_mem _ hc))
    have la := valD_lt a (fun c hc => ha c (List.mem_cons_of_mem _ hc))
    have lb := valD_lt b (fun c hc => hb c (List.mem_cons_of_mem _ hc))
    obtain ⟨x1, x2⟩ := dig_bounds (ha x List.mem_cons_self)
    obtain ⟨y1, y2⟩ := dig_bounds (hb y List.mem_cons_self)
    rw [valD_cons, valD_cons, hl]
    rw [hl] at la
    generalize 10 ^ b.length = p at la lb
    simp only [Op.bytesLess, ih]
    by_cases h1 : x < y
    · have h1' : x.toNat < y.toNat := UInt8.lt_iff_toNat_lt.1 h1
      have : (x.toNat - 48 + 1) * p ≤ (y.toNat - 48) * p := Nat.mul_le_mul_right _ (by omega)
      rw [Nat.add_mul, Nat.one_mul] at this
      simp only [h1, decide_true, Bool.true_or]
      symm; rw [decide_eq_true_iff]; omega
    · by_cases h2 : x = y
      · subst h2
        simp only [h1, decide_false, Bool.false_or, beq_self_eq_true, Bool.true_and]
        rw [decide_eq_decide]; omega
      · have h1' : y.toNat < x.toNat := by
          rw [UInt8.lt_iff_toNat_lt] at h1
          have : x.toNat ≠ y.toNat := fun e => h2 (UInt8.toNat_inj.1 e)
          omega
        have : (y.toNat - 48 + 1) * p ≤ (x.toNat - 48) * p := Nat.mul_le_mul_right _ (by omega)
        rw [Nat.add_mul, Nat.one_mul] at this
        have hb : (x == y) = false := beq_eq_false_iff_ne.2 h2
        simp only [h1, decide_false, hb, Bool.false_and, Bool.or_false]
        symm; rw [decide_eq_false_iff_not]; omega
theorem ddig_loop (w : List UInt8) (hd : ∀ c ∈ w, digC c = true) (hl : w.length ≤ 8000) (hv : valD w < 9223372036854775808) : ∀ (u v : List UInt8), v ++ u = w → Ev (fun k => switchyardref07_digits.l0 k (mk w) (valD v : Int) (v.length : Int)) ((valD w : Int), true) := by
  intro u
  induction u with
  | nil =>
    intro v h
    rw [List.append_nil] at h
    subst h
    exact Ev.step (fun k => by simp only [switchyardref07_digits.l0]; rfl) (Ev.neg (by rw [mk_size]; omega) (Ev.now _))
  | cons c u ih =>
    intro v h
    have next := ih (v ++ [c]) (by simpa using h)
    have hlen : v.length < w.length := by rw [← h]; simp
    have hdr : w.drop v.length = c :: u := by rw [← h, List.drop_left]
    obtain ⟨_, hb⟩ := bt_drop hdr
    obtain ⟨c1, c2⟩ := dig_bounds (hd c (by rw [← h]; simp))
    have hvs : valD (v ++ [c]) = 10 * valD v + (c.toNat - 48) := by unfold valD; rw [List.foldl_append]; rfl
    have hle : valD (v ++ [c]) ≤ valD w := by
      have e : valD w = valA (valD (v ++ [c])) u := by
        rw [← h, show v ++ c :: u = (v ++ [c]) ++ u by simp]
        unfold valA valD; rw [List.foldl_append]
      rw [e]; exact valA_ge u _
    have e1 : wrap64 (wrap64 (10 * (valD v : Int)) + (((c.toNat : Int) - 48) % 256)) = (valD (v ++ [c]) : Int) := by
      rw [w_id (x := 10 * (valD v : Int)) (by omega) (by omega), w_id (by omega) (by omega)]; omega
    refine Ev.step (fun k => by simp only [switchyardref07_digits.l0]; rfl) ?_
    rw [hb, e1, wr_succ hlen (by omega)]
    clear e1
    rw [List.length_append] at next
    exact Ev.pos (by rw [mk_size]; omega) (Ev.pos (by omega) next)
theorem ddigits_ev (w : List UInt8) (hne : w ≠ []) (hd : ∀ c ∈ w, digC c = true) (hl : w.length ≤ 8000) : Ev (fun k => switchyardref07_digits.f k (mk w)) (if valD w < 9223372036854775808 ∧ ¬ (1 < w.length ∧ w.head? = some 48) then ((valD w : Int), true) else (0, false)) := by
  obtain ⟨c, r, rfl⟩ := List.exists_cons_of_ne_nil hne
  have hb : bt (mk (c :: r)) 0 = (c.toNat : Int) := bt_mk (l := c :: r) (i := 0) (by simp)
  have hsz : (mk (c :: r)).size = (c :: r).length := mk_size _
  obtain ⟨c1, c2⟩ := dig_bounds (hd c List.mem_cons_self)
  have hlt := valD_lt (c :: r) hd
  have jt : ∀ R, R = ((0 : Int), false) → Ev (fun k => switchyardref07_digits.j0 k (mk (c :: r)) true) R := by
    rintro R rfl
    refine Ev.step (fun k => by simp only [switchyardref07_digits.j0]; rfl) ?_
    exact Ev.pos (by trivial) (Ev.now _)
  have jf : valD (c :: r) < 9223372036854775808 → Ev (fun k => switchyardref07_digits.j0 k (mk (c :: r)) false) ((valD (c :: r) : Int), true) := by
    intro hv
    exact Ev.step (fun k => by simp only [switchyardref07_digits.j0]; rfl) (Ev.neg (by simp) (ddig_loop (c :: r) hd hl hv (c :: r) [] rfl))
  have most : ∀ c ∈ ([57, 50, 50, 51, 51, 55, 50, 48, 51, 54, 56, 53, 52, 55, 55, 53, 56, 48, 55] : List UInt8), digC c = true := by decide
  have rest : ¬ (1 < (c :: r).length ∧ c = 48) → Ev (fun k => if ((mk (c :: r)).size : Int) > 19 then (switchyardref07_digits.j0 k (mk (c :: r)) true) else (if ((mk (c :: r)).size : Int) = 19 then (switchyardref07_digits.j0 k (mk (c :: r)) (Op.bytesLess ([57, 50, 50, 51, 51, 55, 50, 48, 51, 54, 56, 53, 52, 55, 55, 53, 56, 48, 55] : List UInt8) (mk (c :: r)).toList)) else (switchyardref07_digits.j0 k (mk (c :: r)) false))) (if valD (c :: r) < 9223372036854775808 ∧ ¬ (1 < (c :: r).length ∧ (c :: r).head? = some 48) then ((valD (c :: r) : Int), true) else (0, false)) := by
    intro hz
    have hz' : ¬ (1 < (c :: r).length ∧ (c :: r).head? = some 48) := fun h => hz ⟨h.1, Option.some.inj h.2⟩
    by_cases h19 : 19 < (c :: r).length
    · have hbig : ¬ valD (c :: r) < 9223372036854775808 := by
        rw [valD_cons]
        have c48 : c.toNat ≠ 48 := fun e => hz ⟨by omega, UInt8.toNat_inj.1 e⟩
        have p1 : 10 ^ 19 ≤ 10 ^ r.length := Nat.pow_le_pow_right (by decide) (by rw [List.length_cons] at h19; omega)
        have p2 : 1 * 10 ^ r.length ≤ (c.toNat - 48) * 10 ^ r.length := Nat.mul_le_mul_right _ (by omega)
        have : (10 : Nat) ^ 19 = 10000000000000000000 := by decide
        omega
      exact Ev.pos (by rw [hsz]; omega) (jt _ (by rw [if_neg (fun h => hbig h.1)]))
    · refine Ev.neg (by rw [hsz]; omega) ?_
      by_cases h19' : (c :: r).length = 19
      · refine Ev.pos (by rw [hsz, h19']; rfl) ?_
        rw [mkT, less_val _ (c :: r) (by rw [h19']; rfl) most hd]
        have hm : valD [57, 50, 50, 51, 51, 55, 50, 48, 51, 54, 56, 53, 52, 55, 55, 53, 56, 48, 55] = 9223372036854775807 := by decide
        rw [hm]
        by_cases hv : 9223372036854775807 < valD (c :: r)
        · rw [decide_eq_true hv]
          exact jt _ (by rw [if_neg (fun h => by have := h.1; omega)])
        · rw [decide_eq_false hv, if_pos ⟨by omega, hz'⟩]
          exact jf (by omega)
      · refine Ev.neg (by rw [hsz]; omega) ?_
        have hs : valD (c :: r) < 9223372036854775808 := by
          have : 10 ^ (c :: r).length ≤ 10 ^ 18 := Nat.pow_le_pow_right (by decide) (by omega)
          have : (10 : Nat) ^ 18 = 1000000000000000000 := by decide
          omega
        rw [if_pos ⟨hs, hz'⟩]
        exact jf hs
  unfold switchyardref07_digits.f
  rw [hb]
  by_cases h1 : 1 < (c :: r).length
  · refine Ev.pos (by rw [hsz]; omega) (Ev.pos (by rw [hsz]; omega) ?_)
    by_cases hz : c = 48
    · exact Ev.pos ((cc_iff c 48 (by decide)).2 hz) (jt _ (by rw [if_neg (fun h => h.2 ⟨h1, by rw [hz]; rfl⟩)]))
    · exact Ev.neg (fun h => hz ((cc_iff c 48 (by decide)).1 h)) (rest (fun h => hz h.2))
  · exact Ev.neg (by rw [hsz]; omega) (rest (fun h => h1 h.1))
end Go.Proofs.YtdjcechogbcdnaaDoor.XL
namespace Go.Proofs.YtdjcechogbcdnaaDoor.XL
open Go.RowKit Go.Proofs.YtdjcechogbcdnaaDoorW.PrintWords Go.Proofs.YtdjcechogbcdnaaDoorW.PrintLast Go.Proofs.YtdjcechogbcdnaaDoorW.PrintMore
set_option linter.unusedVariables false
set_option linter.unusedSimpArgs false
theorem w_m1 (n : Nat) (h : n ≤ 4611686018427387904) : wrap64 (((n + 2 : Nat) : Int) - 1) = ((n + 1 : Nat) : Int) := by unfold wrap64; omega
theorem w_last (q : List UInt8) (h : q.length ≤ 8000) (h2 : 2 ≤ q.length) : wrap64 (((mk q).size : Int) - 1) = ((q.length - 1 : Nat) : Int) := by rw [mk_size]; unfold wrap64; omega
theorem w_c1 (c : Nat) (h : c < 256) : wrap64 ((c : Int) + 1) = ((c + 1 : Nat) : Int) := by unfold wrap64; omega
theorem q_step {l Y : List UInt8} (hl : l.length ≤ 8000) {a i : Nat} {c : UInt8} {R : Int} (h : l.drop i = c :: Y) (h92 : c ≠ 92) (h34 : c ≠ 34) (hn : Ev (fun k => switchyardref07_quoted.l0 k (mk l) (a : Int) ((i + 1 : Nat) : Int)) R) : Ev (fun k => switchyardref07_quoted.l0 k (mk l) (a : Int) (i : Int)) R := by
  obtain ⟨hi, hb⟩ := bt_drop h
  refine Ev.step (fun k => by simp only [switchyardref07_quoted.l0]; rfl) ?_
  rw [hb, wr_succ hi (by omega)]
  exact Ev.pos (by rw [mk_size]; omega) (Ev.pos (by omega) (Ev.neg (fun e => h92 ((cc_iff c 92 (by decide)).1 e)) (Ev.neg (fun e => h34 ((cc_iff c 34 (by decide)).1 e)) hn)))
theorem q_skip {l Y : List UInt8} (hl : l.length ≤ 8000) {a i : Nat} {R : Int} (h : l.drop i = 92 :: Y) (hn : Ev (fun k => switchyardref07_quoted.l0 k (mk l) (a : Int) ((i + 2 : Nat) : Int)) R) : Ev (fun k => switchyardref07_quoted.l0 k (mk l) (a : Int) (i : Int)) R := by
  obtain ⟨hi, hb⟩ := bt_drop h
  have e : wrap64 (wrap64 ((i : Int) + 1) + 1) = ((i + 2 : Nat) : Int) := by
    rw [wr_succ hi (by omega), w_id] <;> omega
  refine Ev.step (fun k => by simp only [switchyardref07_quoted.l0]; rfl) ?_
  rw [hb, e]
  clear e
  exact Ev.pos (by rw [mk_size]; omega) (Ev.pos (by omega) (Ev.pos (by rfl) hn))
theorem q_end {l Y : List UInt8} (hl : l.length ≤ 8000) {a i : Nat} (ha : a ≤ i) (h : l.drop i = 34 :: Y) : Ev (fun k => switchyardref07_quoted.l0 k (mk l) (a : Int) (i : Int)) ((i + 1 - a : Nat) : Int) := by
  obtain ⟨hi, hb⟩ := bt_drop h
  have e : wrap64 (wrap64 ((i : Int) + 1) - (a : Int)) = ((i + 1 - a : Nat) : Int) := by
    rw [wr_succ hi (by omega)]
    exact w_sub (by omega) (by omega)
  refine Ev.step (fun k => by simp only [switchyardref07_quoted.l0]; rfl) ?_
  rw [hb, e]
  clear e
  exact Ev.pos (by rw [mk_size]; omega) (Ev.pos (by omega) (Ev.neg (by decide) (Ev.pos (by rfl) (Ev.now _))))
theorem hx_plain : ∀ n : Fin 16, hx n.val ≠ 92 ∧ hx n.val ≠ 34 := by decide +kernel
theorem enc_pos (c : UInt8) : 1 ≤ (enc c).length := by rcases enc_is c with ⟨h, _⟩ | ⟨h, _⟩ | ⟨h, _⟩ <;> rw [h] <;> simp
theorem quoted_good (l : List UInt8) (hl : l.length ≤ 8000) (a : Nat) (rest : List UInt8) : ∀ (u : List UInt8) (i : Nat), a ≤ i → l.drop i = u.flatMap enc ++ 34 :: rest → Ev (fun k => switchyardref07_quoted.l0 k (mk l) (a : Int) (i : Int)) ((i + (u.flatMap enc).length + 1 - a : Nat) : Int) := by
  intro u
  induction u with
  | nil =>
    intro i ha h
    exact q_end hl ha h
  | cons c u ih =>
    intro i ha h
    rw [List.flatMap_cons, List.append_assoc] at h
    rw [List.flatMap_cons, List.length_append]
    rcases enc_is c with ⟨hc, h1, h2⟩ | ⟨hc, h1⟩ | ⟨hc, h1, h2⟩ <;> rw [hc] at h ⊢ <;> simp only [List.cons_append, List.nil_append, List.length_cons, List.length_nil] at h ⊢
    · have := ih (i + 1) (by omega) (drop_next h)
      rw [show i + (0 + 1 + (u.flatMap enc).length) + 1 - a = i + 1 + (u.flatMap enc).length + 1 - a by omega]
      exact q_step hl h h1 h2 this
    · have := ih (i + 2) (by omega) (drop_next (drop_next h))
      rw [show i + (0 + 1 + 1 + (u.flatMap enc).length) + 1 - a = i + 2 + (u.flatMap enc).length + 1 - a by omega]
      exact q_skip hl h this
    · have d2 : l.drop (i + 2) = _ := drop_next (drop_next h)
      have d3 : l.drop (i + 3) = _ := drop_next d2
      have d4 : l.drop (i + 4) = _ := drop_next d3
      have := ih (i + 4) (by omega) d4
      have q := u8_lt c
      have p1 := hx_plain ⟨c.toNat / 16, by omega⟩
      have p2 := hx_plain ⟨c.toNat % 16, by omega⟩
      rw [show i + (0 + 1 + 1 + 1 + 1 + (u.flatMap enc).length) + 1 - a = i + 4 + (u.flatMap enc).length + 1 - a by omega]
      exact q_skip hl h (q_step hl d2 p1.1 p1.2 (q_step hl d3 p2.1 p2.2 this))
theorem quoted_any (l : List UInt8) (hl : l.length ≤ 8000) (a : Nat) : ∀ (d i : Nat), l.length + 2 - i ≤ d → a < i → ∃ n : Nat, Ev (fun k => switchyardref07_quoted.l0 k (mk l) (a : Int) (i : Int)) (n : Int) ∧ (n = 0 ∨ (a + n ≤ l.length ∧ 2 ≤ n ∧ ∃ Z, l.drop (a + n - 1) = 34 :: Z)) := by
  have stop : ∀ i : Nat, ¬ i < l.length → ∃ n : Nat, Ev (fun k => switchyardref07_quoted.l0 k (mk l) (a : Int) (i : Int)) (n : Int) ∧ (n = 0 ∨ (a + n ≤ l.length ∧ 2 ≤ n ∧ ∃ Z, l.drop (a + n - 1) = 34 :: Z)) := by
    intro i hi
    exact ⟨0, Ev.step (fun k => by simp only [switchyardref07_quoted.l0]; rfl) (Ev.neg (by rw [mk_size]; omega) (Ev.now _)), Or.inl rfl⟩
  intro d
  induction d with
  | zero => intro i hd ha; exact stop i (by omega)
  | succ d ih =>
    intro i hd ha
    by_cases hlt : i < l.length
    · have hdr := List.drop_eq_getElem_cons hlt
      generalize l[i] = c at hdr
      by_cases h92 : c = 92
      · subst h92
        obtain ⟨n, h1, h2⟩ := ih (i + 2) (by omega) (by omega)
        exact ⟨n, q_skip hl hdr h1, h2⟩
      · by_cases h34 : c = 34
        · subst h34
          refine ⟨i + 1 - a, q_end hl (by omega) hdr, Or.inr ⟨by omega, by omega, ?_⟩⟩
          rw [show a + (i + 1 - a) - 1 = i by omega]
          exact ⟨_, hdr⟩
        · obtain ⟨n, h1, h2⟩ := ih (i + 1) (by omega) (by omega)
          exact ⟨n, q_step hl hdr h92 h34 h1, h2⟩
    · exact stop i hlt
theorem print_one (c : Nat) (hc : c < 256) : Ev (fun k => switchyardref06_Print.f k 3 0 (strOfNums ([((c : Int)) % 256] : List Int)) []) (mk (prt [UInt8.ofNat c])) := by
  have e : strOfNums ([((c : Int)) % 256] : List Int) = mk [UInt8.ofNat c] := by
    have : (((c : Int)) % 256).toNat = c := by omega
    simp [strOfNums, mk, this]
  rw [e]
  have := ref_print_ev 3 0 (mk [UInt8.ofNat c]) [] (by simp [rightB, mk_size]) (by decide) (by decide) (fun x hx => by cases hx)
  rw [printL_text] at this
  exact this
theorem prt_one (c : UInt8) : prt [c] = 34 :: (enc c ++ [34]) := by simp [prt]
section
variable (q : List UInt8) (hq : q.length ≤ 8000) (hq2 : 2 ≤ q.length)
include hq hq2
/-- What is left of the text at a place: without its last byte. -/
theorem said_no {v : List UInt8} {i c : Nat} {R : ByteArray × Bool} (hi : i ≤ q.length - 1) (hc : c < 256) (hm : ¬ enc (UInt8.ofNat c) <+: (q.take (q.length - 1)).drop i) (hn : Ev (fun k => switchyardref07_said.l1 k (mk q) (nums v) (i : Int) false ((c + 1 : Nat) : Int)) R) : Ev (fun k => switchyardref07_said.l1 k (mk q) (nums v) (i : Int) false (c : Int)) R := by
  have hp := print_one c hc
  generalize hE : enc (UInt8.ofNat c) = E at hm
  have hP : mk (prt [UInt8.ofNat c]) = mk (34 :: (E ++ [34])) := by rw [prt_one, hE]
  rw [hP] at hp
  have hE1 : 1 ≤ E.length := by rw [← hE]; exact enc_pos _
  have hE4 : E.length ≤ 4 := by rw [← hE]; rcases enc_is (UInt8.ofNat c) with ⟨h, _⟩ | ⟨h, _⟩ | ⟨h, _⟩ <;> rw [h] <;> simp
  have hsz : (mk (34 :: (E ++ [34]))).size = E.length + 2 := by rw [mk_size]; simp
  have k1 : E.length ≤ 4611686018427387904 := by omega
  have k2 : i + E.length ≤ 4611686018427387904 := by omega
  refine Ev.step (fun k => by simp only [switchyardref07_said.l1]; rfl) (Ev.pos (by omega) ?_)
  refine Ev.step (fun k => by simp only [switchyardref07_said.j2]; rfl) ?_
  refine Ev.pos (by rfl) (Ev.bind hp ?_)
  have e1 := w_m1 E.length k1
  have e2 : (mk (34 :: (E ++ [34]))).extract 1 (((E.length + 1 : Nat) : Int)).toNat = mk E := by
    rw [Int.toNat_natCast, mk_ext, List.take_succ_cons, List.drop_succ_cons, List.drop_zero, List.take_left]
  have e3 : wrap64 ((i : Int) + (E.length : Int)) = ((i + E.length : Nat) : Int) := w_add k2
  have e4 := w_last q hq hq2
  have e5 := w_c1 c hc
  simp only [hsz, e1, e2, mk_size E, e3, e4, e5]
  clear e1 e2 e3 e4 e5
  refine Ev.pos (by omega) (Ev.pos (by omega) ?_)
  by_cases h1 : i + E.length ≤ q.length - 1
  · refine Ev.pos (by omega) (Ev.pos (by omega) (Ev.pos (by omega) (Ev.pos (by rw [mk_size]; omega) (Ev.neg ?_ hn))))
    rw [Int.toNat_natCast, Int.toNat_natCast, mk_ext, mkT, mkT]
    intro h
    apply hm
    rw [← h, List.drop_take, List.drop_take]
    rw [show i + E.length - i = E.length by omega]
    exact List.take_prefix_take_left (by omega)
  · exact Ev.neg (by omega) hn
theorem said_yes {v : List UInt8} {i c : Nat} {R : ByteArray × Bool} (hv : v.length ≤ i) (hc : c < 256) (hm : enc (UInt8.ofNat c) <+: (q.take (q.length - 1)).drop i) (hi : i ≤ q.length - 1) (hn : Ev (fun k => switchyardref07_said.l0 k (mk q) (nums (v ++ [UInt8.ofNat c])) ((i + (enc (UInt8.ofNat c)).length : Nat) : Int)) R) : Ev (fun k => switchyardref07_said.l1 k (mk q) (nums v) (i : Int) false (c : Int)) R := by
  have hp := print_one c hc
  generalize hE : enc (UInt8.ofNat c) = E at hm hn
  have hP : mk (prt [UInt8.ofNat c]) = mk (34 :: (E ++ [34])) := by rw [prt_one, hE]
  rw [hP] at hp
  have hE4 : E.length ≤ 4 := by rw [← hE]; rcases enc_is (UInt8.ofNat c) with ⟨h, _⟩ | ⟨h, _⟩ | ⟨h, _⟩ <;> rw [h] <;> simp
  have hsz : (mk (34 :: (E ++ [34]))).size = E.length + 2 := by rw [mk_size]; simp
  have k1 : E.length ≤ 4611686018427387904 := by omega
  have k2 : i + E.length ≤ 4611686018427387904 := by omega
  have hle := hm.length_le
  rw [List.length_drop, List.length_take] at hle
  have hin : i + E.length ≤ q.length - 1 := by omega
  have hx : (q.take (i + E.length)).drop i = E := by
    rw [List.drop_take, List.prefix_iff_eq_take] at hm
    rw [List.drop_take, show i + E.length - i = E.length by omega]
    rw [List.take_take, Nat.min_eq_left (show E.length ≤ q.length - 1 - i by omega)] at hm
    exact hm.symm
  refine Ev.step (fun k => by simp only [switchyardref07_said.l1]; rfl) (Ev.pos (by omega) ?_)
  refine Ev.step (fun k => by simp only [switchyardref07_said.j2]; rfl) ?_
  refine Ev.pos (by rfl) (Ev.bind hp ?_)
  have e1 := w_m1 E.length k1
  have e2 : (mk (34 :: (E ++ [34]))).extract 1 (((E.length + 1 : Nat) : Int)).toNat = mk E := by
    rw [Int.toNat_natCast, mk_ext, List.take_succ_cons, List.drop_succ_cons, List.drop_zero, List.take_left]
  have e3 : wrap64 ((i : Int) + (E.length : Int)) = ((i + E.length : Nat) : Int) := w_add k2
  have e4 := w_last q hq hq2
  have e5 := w_c1 c hc
  simp only [hsz, e1, e2, mk_size E, e3, e4, e5]
  clear e1 e2 e3 e4 e5
  refine Ev.pos (by omega) (Ev.pos (by omega) (Ev.pos (by omega) (Ev.pos (by omega) (Ev.pos (by omega) (Ev.pos (by rw [mk_size]; omega) (Ev.pos ?_ (Ev.pos (by rw [nums_len]; omega) ?_)))))))
  · rw [Int.toNat_natCast, Int.toNat_natCast, mk_ext, mkT, mkT]; exact hx
  · have hc2 : ((c : Int)) % 256 = ((UInt8.ofNat c).toNat : Int) := by rw [UInt8.toNat_ofNat']; omega
    rw [hc2, nums_snoc]
    have fin : Ev (fun k => switchyardref07_said.j2 k (mk q) (nums (v ++ [UInt8.ofNat c])) ((i + E.length : Nat) : Int) true ((c + 1 : Nat) : Int) false) R := by
      refine Ev.step (fun k => by simp only [switchyardref07_said.j2]; rfl) (Ev.neg (by simp) ?_)
      exact Ev.pos (by trivial) hn
    refine Ev.step (fun k => by simp only [switchyardref07_said.l1]; rfl) ?_
    by_cases h256 : c + 1 < 256
    · exact Ev.pos (by omega) fin
    · exact Ev.neg (by omega) fin
theorem said_none {v : List UInt8} {i : Nat} (hi : i ≤ q.length - 1) (hm : ∀ c : UInt8, ¬ enc c <+: (q.take (q.length - 1)).drop i) : ∀ d c : Nat, c + d = 256 → Ev (fun k => switchyardref07_said.l1 k (mk q) (nums v) (i : Int) false (c : Int)) ((⟨#[]⟩ : ByteArray), false) := by
  intro d
  induction d with
  | zero =>
    intro c hc
    refine Ev.step (fun k => by simp only [switchyardref07_said.l1]; rfl) (Ev.neg (by omega) ?_)
    refine Ev.step (fun k => by simp only [switchyardref07_said.j2]; rfl) (Ev.neg (by simp) (Ev.neg (by simp) (Ev.now _)))
  | succ d ih =>
    intro c hc
    exact said_no q hq hq2 hi (by omega) (hm _) (ih (c + 1) (by omega))
theorem said_some {v : List UInt8} {i : Nat} {b : UInt8} {R : ByteArray × Bool} (hv : v.length ≤ i) (hi : i ≤ q.length - 1) (hm : enc b <+: (q.take (q.length - 1)).drop i) (hn : Ev (fun k => switchyardref07_said.l0 k (mk q) (nums (v ++ [b])) ((i + (enc b).length : Nat) : Int)) R) : ∀ d c : Nat, c + d = b.toNat → Ev (fun k => switchyardref07_said.l1 k (mk q) (nums v) (i : Int) false (c : Int)) R := by
  intro d
  induction d with
  | zero =>
    intro c hc
    obtain rfl : c = b.toNat := by omega
    have e : UInt8.ofNat b.toNat = b := UInt8.ofNat_toNat
    exact said_yes q hq hq2 hv b.toNat_lt (by rw [e]; exact hm) hi (by rw [e]; exact hn)
  | succ d ih =>
    intro c hc
    have hb := b.toNat_lt
    refine said_no q hq hq2 hi (by omega) ?_ (ih (c + 1) (by omega))
    rintro ⟨x, hx⟩
    obtain ⟨y, hy⟩ := hm
    have := (enc_inj _ _ _ _ (hx.trans hy.symm)).1
    have e2 := congrArg UInt8.toNat this
    rw [UInt8.toNat_ofNat'] at e2
    omega
/-- What is said, if it is the spelling of something; else nothing. -/
theorem said_all : ∀ (d i : Nat) (v : List UInt8), q.length - 1 - i ≤ d → i ≤ q.length - 1 → v.length ≤ i → (∃ u : List UInt8, (q.take (q.length - 1)).drop i = u.flatMap enc ∧ Ev (fun k => switchyardref07_said.l0 k (mk q) (nums v) (i : Int)) (mk (v ++ u), decide ((v ++ u).length ≤ 64))) ∨ ((∀ u : List UInt8, (q.take (q.length - 1)).drop i ≠ u.flatMap enc) ∧ Ev (fun k => switchyardref07_said.l0 k (mk q) (nums v) (i : Int)) ((⟨#[]⟩ : ByteArray), false)) := by
  intro d
  induction d with
  | zero =>
    intro i v hd hi hv
    left
    refine ⟨[], by rw [List.drop_eq_nil_of_le (by rw [List.length_take]; omega)]; rfl, ?_⟩
    refine Ev.step (fun k => by simp only [switchyardref07_said.l0]; rfl) ?_
    rw [w_last q hq hq2]
    refine Ev.neg (by omega) (Ev.val ?_)
    rw [str_nums, nums_len, List.append_nil]
    congr 1
    rw [decide_eq_decide]; omega
  | succ d ih =>
    intro i v hd hi hv
    by_cases hlt : i < q.length - 1
    · have head : ∀ R, Ev (fun k => switchyardref07_said.l1 k (mk q) (nums v) (i : Int) false ((0 : Nat) : Int)) R → Ev (fun k => switchyardref07_said.l0 k (mk q) (nums v) (i : Int)) R := by
        intro R h
        refine Ev.step (fun k => by simp only [switchyardref07_said.l0]; rfl) ?_
        rw [w_last q hq hq2]
        exact Ev.pos (by omega) h
      have hne : (q.take (q.length - 1)).drop i ≠ [] := by
        intro h
        have := congrArg List.length h
        rw [List.length_drop, List.length_take, List.length_nil] at this; omega
      by_cases hex : ∃ b : UInt8, enc b <+: (q.take (q.length - 1)).drop i
      · obtain ⟨b, hb⟩ := hex
        have hlb := hb.length_le
        rw [List.length_drop, List.length_take] at hlb
        have hb1 := enc_pos b
        obtain ⟨x, hx⟩ := hb
        have hdr : (q.take (q.length - 1)).drop (i + (enc b).length) = x := by rw [← List.drop_drop, ← hx, List.drop_left]
        rcases ih (i + (enc b).length) (v ++ [b]) (by omega) (by omega) (by rw [List.length_append, List.length_singleton]; omega) with ⟨u, h1, h2⟩ | ⟨h1, h2⟩
        · left
          refine ⟨b :: u, ?_, ?_⟩
          · rw [List.flatMap_cons, ← h1, hdr, hx]
          · have := head _ (said_some q hq hq2 hv hi ⟨x, hx⟩ h2 b.toNat 0 (by omega))
            simpa using this
        · right
          refine ⟨fun u hu => ?_, head _ (said_some q hq hq2 hv hi ⟨x, hx⟩ h2 b.toNat 0 (by omega))⟩
          cases u with
          | nil => exact hne hu
          | cons c u =>
            rw [List.flatMap_cons, ← hx] at hu
            obtain ⟨_, h4⟩ := enc_inj _ _ _ _ hu
            exact h1 u (by rw [hdr]; exact h4)
      · right
        refine ⟨fun u hu => ?_, head _ (said_none q hq hq2 hi (fun c h => hex ⟨c, h⟩) 256 0 (by omega))⟩
        cases u with
        | nil => exact hne hu
        | cons c u => exact hex ⟨c, by rw [hu, List.flatMap_cons]; exact List.prefix_append _ _⟩
    · left
      refine ⟨[], by rw [List.drop_eq_nil_of_le (by rw [List.length_take]; omega)]; rfl, ?_⟩
      refine Ev.step (fun k => by simp only [switchyardref07_said.l0]; rfl) ?_
      rw [w_last q hq hq2]
      refine Ev.neg (by omega) (Ev.val ?_)
      rw [str_nums, nums_len, List.append_nil]
      congr 1
      rw [decide_eq_decide]; omega
end
/-- The document's text at a place. -/
theorem dtext (l r : List UInt8) (hl : l.length ≤ 8000) (a : Nat) (ha : l.drop a = 34 :: r) : (∃ t n, textTk (34 :: r) = some (3, t, 0, n) ∧ 2 ≤ n ∧ a + n ≤ l.length ∧ Ev (fun k => switchyardref07_quoted.f k (mk l) (a : Int)) (n : Int) ∧ Ev (fun k => switchyardref07_said.f k (mk ((l.take (a + n)).drop a))) (mk t, true)) ∨ (textTk (34 :: r) = none ∧ (Ev (fun k => switchyardref07_quoted.f k (mk l) (a : Int)) 0 ∨ ∃ n t, 2 ≤ n ∧ a + n ≤ l.length ∧ Ev (fun k => switchyardref07_quoted.f k (mk l) (a : Int)) (n : Int) ∧ Ev (fun k => switchyardref07_said.f k (mk ((l.take (a + n)).drop a))) (t, false))) := by
  obtain ⟨hi, _⟩ := bt_drop ha
  have e0 : wrap64 ((a : Int) + 1) = ((a + 1 : Nat) : Int) := wr_succ hi (by omega)
  unfold switchyardref07_quoted.f
  rw [e0]
  clear e0
  by_cases h : ∃ t : List UInt8, t.length ≤ 64 ∧ prt t <+: 34 :: r
  · obtain ⟨t, ht, rest, hr⟩ := h
    left
    have hdr : l.drop (a + 1) = t.flatMap enc ++ 34 :: rest := by
      rw [drop_next ha]
      unfold prt at hr
      rw [List.cons_append] at hr
      rw [← (List.cons.inj hr).2]; simp
    have hlen : (prt t).length = (t.flatMap enc).length + 2 := by simp [prt]
    have htot := congrArg List.length hr
    rw [List.length_append, ← ha, List.length_drop] at htot
    have h2 := prt_len t
    refine ⟨t, (prt t).length, textTk_some ht ⟨rest, hr⟩, h2, by omega, ?_, ?_⟩
    · have := quoted_good l hl a rest t (a + 1) (by omega) hdr
      rw [show a + 1 + (t.flatMap enc).length + 1 - a = (prt t).length by omega] at this
      exact this
    · have hq : (l.take (a + (prt t).length)).drop a = prt t := by
        rw [List.drop_take, ha, ← hr, show a + (prt t).length - a = (prt t).length by omega, List.take_left]
      rw [hq]
      have hb : ((prt t).take ((prt t).length - 1)).drop 1 = t.flatMap enc := by
        have : (prt t).length - 1 = (t.flatMap enc).length + 1 := by omega
        rw [this]
        unfold prt
        rw [List.take_succ_cons, List.drop_succ_cons, List.drop_zero, List.take_left]
      rcases said_all (prt t) (by omega) h2 _ 1 [] (Nat.le_refl _) (by omega) (by simp) with ⟨u, h3, h4⟩ | ⟨h3, _⟩
      · rw [hb] at h3
        have : u = t := by
          have := body_inj u t [] [] (by rw [h3])
          exact this.1
        subst this
        simp only [List.nil_append] at h4
        rw [decide_eq_true ht] at h4
        exact h4
      · exact absurd hb (h3 t)
  · have hn : ∀ t : List UInt8, t.length ≤ 64 → ¬ prt t <+: 34 :: r := fun t h1 h2 => h ⟨t, h1, h2⟩
    right
    refine ⟨textTk_none hn, ?_⟩
    obtain ⟨n, h1, h2⟩ := quoted_any l hl a _ (a + 1) (Nat.le_refl _) (by omega)
    rcases h2 with rfl | ⟨h3, h4, Z, h5⟩
    · exact Or.inl h1
    · right
      have hq : (l.take (a + n)).drop a = (34 :: r).take n := by
        rw [List.drop_take, ha, show a + n - a = n by omega]
      have hql : ((34 :: r).take n).length = n := by
        rw [← hq, List.length_drop, List.length_take]; omega
      have hlast : (34 :: r).take n = 34 :: (((((34 :: r).take n).take (n - 1)).drop 1) ++ [34]) := by
        obtain ⟨m, rfl⟩ : ∃ m, n = m + 2 := ⟨n - 2, by omega⟩
        rw [show a + (m + 2) - 1 = a + (m + 1) by omega, ← List.drop_drop, ha, List.drop_succ_cons] at h5
        have hm : m < r.length := by
          have := congrArg List.length h5
          rw [List.length_drop, List.length_cons] at this; omega
        have hg : r[m] = 34 := by
          rw [List.drop_eq_getElem_cons hm] at h5
          exact (List.cons.inj h5).1
        rw [List.take_take, Nat.min_eq_left (show m + 2 - 1 ≤ m + 2 by omega), show m + 2 - 1 = m + 1 by omega, List.take_succ_cons, List.take_succ_cons, List.drop_succ_cons, List.drop_zero, List.take_succ_eq_append_getElem hm, hg]
      rw [← hq] at hql hlast
      generalize hQ : (l.take (a + n)).drop a = q at hql hlast
      rcases said_all q (by omega) (by omega) _ 1 [] (Nat.le_refl _) (by omega) (by simp) with ⟨u, h6, h7⟩ | ⟨_, h7⟩
      · simp only [List.nil_append] at h7
        by_cases h64 : u.length ≤ 64
        · exfalso
          apply hn u h64
          rw [hql] at h6
          rw [h6] at hlast
          have : prt u = q := hlast.symm
          rw [this, ← hQ, hq]
          exact List.take_prefix _ _
        · rw [decide_eq_false h64] at h7
          exact ⟨n, mk u, h4, h3, h1, by rw [hQ]; exact h7⟩
      · exact ⟨n, _, h4, h3, h1, by rw [hQ]; exact h7⟩
end Go.Proofs.YtdjcechogbcdnaaDoor.XL
namespace Go.Proofs.YtdjcechogbcdnaaDoor.XL
open Go.RowKit Go.Proofs.YtdjcechogbcdnaaDoorW.PrintWords Go.Proofs.YtdjcechogbcdnaaDoorW.PrintLast Go.Proofs.YtdjcechogbcdnaaDoorW.PrintMore
attribute [local go_sem] max2_int min2_int max_two min_two max_three min_three max_four min_four   -- for this text's walks alone
set_option linter.unusedVariables false
set_option linter.unusedSimpArgs false
def switchyardlaw07_LexScans.f (k : Nat) (a0 : ByteArray) : Option (Bool) := (switchyardlaw07_awake.f k).bind fun t272 => (if t272 = true then ((lex_Scan.f k a0).bind fun bt273 => ((switchyardref07_Scan.f k a0).bind fun bt278 => ((switchyardlaw07_awake.f k).bind fun t283 => (if t283 = true then ((switchyardref07_Same.f k bt273.1 bt278.1).bind fun t284 => (if t284 = true then (if bt273.2.1 = bt278.2.1 then (some (bt273.2.2 == bt278.2.2)) else (none)) else (none))) else (none))))) else (none))
set_option maxHeartbeats 4000000 in
set_option maxRecDepth 100000 in
theorem switchyardlaw07_LexScans.calls (k : Nat) (a0 : ByteArray) (r : Bool) (w : World) (h : switchyardlaw07_LexScans.f k a0 = some r) (hT : Tabs w) :
    Calls Tryd.prog 3 #[.string a0] w fun e w' => e = .returned (.bool r) ∧ Below w.heap.size w w' := by
  have HT := Aside0.mk hT
  clear hT
  have HB := Aside0.mk (Below.refl w.heap.size w)
  have H : ((switchyardlaw07_awake.f k).bind fun t272 => (if t272 = true then ((lex_Scan.f k a0).bind fun bt273 => ((switchyardref07_Scan.f k a0).bind fun bt278 => ((switchyardlaw07_awake.f k).bind fun t283 => (if t283 = true then ((switchyardref07_Same.f k bt273.1 bt278.1).bind fun t284 => (if t284 = true then (if bt273.2.1 = bt278.2.1 then (some (bt273.2.2 == bt278.2.2)) else (none)) else (none))) else (none))))) else (none))) = some r := h
  clear h
  replace H := Option.bind_eq_some_iff.mp H
  obtain ⟨t272, A20, H⟩ := H
  replace H : (if t272 = true then ((lex_Scan.f k a0).bind fun bt273 => ((switchyardref07_Scan.f k a0).bind fun bt278 => ((switchyardlaw07_awake.f k).bind fun t283 => (if t283 = true then ((switchyardref07_Same.f k bt273.1 bt278.1).bind fun t284 => (if t284 = true then (if bt273.2.1 = bt278.2.1 then (some (bt273.2.2 == bt278.2.2)) else (none)) else (none))) else (none))))) else (none)) = some r := H
  have A2 := Aside0.mk A20
  clear A20
  by_cases c3 : t272 = true
  · subst c3
    have H1 : ((lex_Scan.f k a0).bind fun bt273 => ((switchyardref07_Scan.f k a0).bind fun bt278 => ((switchyardlaw07_awake.f k).bind fun t283 => (if t283 = true then ((switchyardref07_Same.f k bt273.1 bt278.1).bind fun t284 => (if t284 = true then (if bt273.2.1 = bt278.2.1 then (some (bt273.2.2 == bt278.2.2)) else (none)) else (none))) else (none))))) = some r := by rw [if_pos rfl] at H; exact H
    clear H
    have H := H1
    clear H1
    replace H := Option.bind_eq_some_iff.mp H
    obtain ⟨⟨t273, t274, t275⟩, A40, H⟩ := H
    replace H : ((switchyardref07_Scan.f k a0).bind fun bt278 => ((switchyardlaw07_awake.f k).bind fun t283 => (if t283 = true then ((switchyardref07_Same.f k t273 bt278.1).bind fun t284 => (if t284 = true then (if t274 = bt278.2.1 then (some (t275 == bt278.2.2)) else (none)) else (none))) else (none)))) = some r := H
    have A4 := Aside0.mk A40
    clear A40
    replace H := Option.bind_eq_some_iff.mp H
    obtain ⟨⟨t278, t279, t280⟩, A50, H⟩ := H
    replace H : ((switchyardlaw07_awake.f k).bind fun t283 => (if t283 = true then ((switchyardref07_Same.f k t273 t278).bind fun t284 => (if t284 = true then (if t274 = t279 then (some (t275 == t280)) else (none)) else (none))) else (none))) = some r := H
    have A5 := Aside0.mk A50
    clear A50
    replace H := Option.bind_eq_some_iff.mp H
    obtain ⟨t283, A60, H⟩ := H
    replace H : (if t283 = true then ((switchyardref07_Same.f k t273 t278).bind fun t284 => (if t284 = true then (if t274 = t279 then (some (t275 == t280)) else (none)) else (none))) else (none)) = some r := H
    have A6 := Aside0.mk A60
    clear A60
    by_cases c7 : t283 = true
    · subst c7
      have H1 : ((switchyardref07_Same.f k t273 t278).bind fun t284 => (if t284 = true then (if t274 = t279 then (some (t275 == t280)) else (none)) else (none))) = some r := by rw [if_pos rfl] at H; exact H
      clear H
      have H := H1
      clear H1
      replace H := Option.bind_eq_some_iff.mp H
      obtain ⟨t284, A80, H⟩ := H
      replace H : (if t284 = true then (if t274 = t279 then (some (t275 == t280)) else (none)) else (none)) = some r := H
      have A8 := Aside0.mk A80
      clear A80
      by_cases c9 : t284 = true
      · subst c9
        have H1 : (if t274 = t279 then (some (t275 == t280)) else (none)) = some r := by rw [if_pos rfl] at H; exact H
        clear H
        have H := H1
        clear H1
        by_cases c10 : t274 = t279
        · rw [if_pos c10] at H
          have c10b0 : (t274 == t279) = true := beq_iff_eq.mpr c10
          have c10b1 : (t274 != t279) = false := bne_eq_false_iff_eq.mpr c10
          clear c10
          obtain rfl := Option.some.inj H
          go_enter Tryd.func3, Tryd.ntmps3
          go_wp2_with (first | ((with_reducible refine gate_callee (f := 7) rfl ?_); refine goesL_ (some 9) rfl rfl Tryd.func7 (by kernel_rfl) rfl #[] rfl (by (try simp only [List.map_toArray, List.map_cons, List.map_nil]); first | done | rfl | (simp only [List.length_drop, List.length_take]; rfl)) ?_; (with_reducible refine (switchyardlaw07_awake.calls k  true _ A2.out (Tabs.below HT.out (by repeat (first | (with_reducible first | exact HB.out | apply below_alloc | apply pw_below_drewN | apply below_drew1) | exact HB.out)))).mono ?_); rintro e w11 ⟨rfl, hb⟩; refine ⟨_, rfl, ?_⟩; have n0_ := Aside0.mk (below_step (by repeat (first | (with_reducible first | exact HB.out | apply below_alloc | apply pw_below_drewN | apply below_drew1) | exact HB.out)) hb); clear HB; have HB := n0_; clear n0_; (try clear hb); (try clear hb2); (try clear hk); (try clear hi)) | ((with_reducible refine gate_callee (f := 8) rfl ?_); refine goesL_ (some 13) rfl rfl Tryd.func8 (by kernel_rfl) rfl #[.string a0] rfl (by (try simp only [List.map_toArray, List.map_cons, List.map_nil]); first | done | rfl | (simp only [List.length_drop, List.length_take]; rfl)) ?_; (with_reducible refine (lex_Scan.calls k a0 t273 t274 t275 _ A4.out (Tabs.below HT.out (by repeat (first | (with_reducible first | exact HB.out | apply below_alloc | apply pw_below_drewN | apply below_drew1) | exact HB.out)))).mono ?_); rintro e w12 ⟨v276, rfl, ho0, hb⟩; refine ⟨_, rfl, ?_⟩; have n0_ := Aside0.mk (Kd.R_lower ho0 (below_size (by repeat (first | (with_reducible first | exact HB.out | apply below_alloc | apply pw_below_drewN | apply below_drew1) | exact HB.out)))); have n1_ := Aside0.mk (below_step (by repeat (first | (with_reducible first | exact HB.out | apply below_alloc | apply pw_below_drewN | apply below_drew1) | exact HB.out)) hb); clear HB; have HO277 := n0_; have HB := n1_; clear n0_ n1_; (try clear hb); (try clear hb2); (try clear hk); (try clear hi); (try clear ho0)) | ((with_reducible refine gate_callee (f := 9) rfl ?_); refine goesL_ (some 19) rfl rfl Tryd.func9 (by kernel_rfl) rfl #[.string a0] rfl (by (try simp only [List.map_toArray, List.map_cons, List.map_nil]); first | done | rfl | (simp only [List.length_drop, List.length_take]; rfl)) ?_; (with_reducible refine (switchyardref07_Scan.calls k a0 t278 t279 t280 _ A5.out).mono ?_); rintro e w13 ⟨v281, rfl, ho0, hb⟩; refine ⟨_, rfl, ?_⟩; have n0_ := Aside0.mk (Kd.R_elder' (by (with_reducible repeat (first | apply Kd.R_alloc | apply Kd.R_drewN | apply Kd.R_drew)); exact HO277.out) (Kd.R_base ho0) hb); have n1_ := Aside0.mk (Kd.R_lower (Kd.R_new' ho0 (Kd.R_lt (by (with_reducible repeat (first | apply Kd.R_alloc | apply Kd.R_drewN | apply Kd.R_drew)); exact HO277.out))) (below_size (by repeat (first | (with_reducible first | exact HB.out | apply below_alloc | apply pw_below_drewN | apply below_drew1) | exact HB.out)))); have n2_ := Aside0.mk (below_step (by repeat (first | (with_reducible first | exact HB.out | apply below_alloc | apply pw_below_drewN | apply below_drew1) | exact HB.out)) hb); clear HO277; clear HB; have HO277 := n0_; have HO282 := n1_; have HB := n2_; clear n0_ n1_ n2_; (try clear hb); (try clear hb2); (try clear hk); (try clear hi); (try clear ho0)) | ((with_reducible refine gate_callee (f := 7) rfl ?_); refine goesL_ (some 23) rfl rfl Tryd.func7 (by kernel_rfl) rfl #[] rfl (by (try simp only [List.map_toArray, List.map_cons, List.map_nil]); first | done | rfl | (simp only [List.length_drop, List.length_take]; rfl)) ?_; (with_reducible refine (switchyardlaw07_awake.calls k  true _ A6.out (Tabs.below HT.out (by repeat (first | (with_reducible first | exact HB.out | apply below_alloc | apply pw_below_drewN | apply below_drew1) | exact HB.out)))).mono ?_); rintro e w14 ⟨rfl, hb⟩; refine ⟨_, rfl, ?_⟩; have n0_ := Aside0.mk (Kd.R_below (by (with_reducible repeat (first | apply Kd.R_alloc | apply Kd.R_drewN | apply Kd.R_drew)); exact HO277.out) hb); have n1_ := Aside0.mk (Kd.R_below (by (with_reducible repeat (first | apply Kd.R_alloc | apply Kd.R_drewN | apply Kd.R_drew)); exact HO282.out) hb); have n2_ := Aside0.mk (below_step (by repeat (first | (with_reducible first | exact HB.out | apply below_alloc | apply pw_below_drewN | apply below_drew1) | exact HB.out)) hb); clear HO277; clear HO282; clear HB; have HO277 := n0_; have HO282 := n1_; have HB := n2_; clear n0_ n1_ n2_; (try clear hb); (try clear hb2); (try clear hk); (try clear hi); obtain ⟨Ao15, co15, eo15⟩ := Kd.R_slice HO277.out; subst eo15; obtain ⟨Ao16, co16, eo16⟩ := Kd.R_slice HO282.out; subst eo16) | (go_at_call 10; refine calls_of_args (args' := #[.slice Ao15 t273.length co15, .slice Ao16 t278.length co16]) (by first | rfl) ?_; (with_reducible refine (switchyardref07_Same.calls k _ _ t273 _ _ t278 true _ ?side1 ?side2 ?side3 ?side4 A8.out).mono ?_); (case side1 => repeat (first | exact (Kd.R_reads' HO277.out).2.2 | (with_reducible refine Kd.C_alloc ?_ _) | (with_reducible refine Kd.C_drewN ?_ _) | (with_reducible refine Kd.C_drew ?_))); (case side2 => exact (Kd.R_reads' HO277.out).2.1); (case side3 => repeat (first | exact (Kd.R_reads' HO282.out).2.2 | (with_reducible refine Kd.C_alloc ?_ _) | (with_reducible refine Kd.C_drewN ?_ _) | (with_reducible refine Kd.C_drew ?_))); (case side4 => exact (Kd.R_reads' HO282.out).2.1); rintro e w' ⟨rfl, ⟨nd, rfl⟩⟩))
          go_ret
          exact ⟨by first | rfl | (simp [errW_none, errW_some] <;> rfl) | (simp [*, errW_none, errW_some] <;> rfl), by repeat (first | (with_reducible first | exact HB.out | apply below_alloc | apply pw_below_drewN | apply below_drew1) | exact HB.out)⟩
        · rw [if_neg c10] at H
          exact absurd H (by simp)
      · replace c9 := Bool.eq_false_iff.mpr c9
        subst c9
        have H1 : (none) = some r := by rw [if_neg (show ¬ (false = true) by decide)] at H; exact H
        clear H
        have H := H1
        clear H1
        exact absurd H (by simp)
    · replace c7 := Bool.eq_false_iff.mpr c7
      subst c7
      have H1 : (none) = some r := by rw [if_neg (show ¬ (false = true) by decide)] at H; exact H
      clear H
      have H := H1
      clear H1
      exact absurd H (by simp)
  · replace c3 := Bool.eq_false_iff.mpr c3
    subst c3
    have H1 : (none) = some r := by rw [if_neg (show ¬ (false = true) by decide)] at H; exact H
    clear H
    have H := H1
    clear H1
    exact absurd H (by simp)
end Go.Proofs.YtdjcechogbcdnaaDoor.XL
namespace Go.Proofs.YtdjcechogbcdnaaDoor.XL
open Go.RowKit Go.Proofs.YtdjcechogbcdnaaDoorW.PrintWords Go.Proofs.YtdjcechogbcdnaaDoorW.PrintLast Go.Proofs.YtdjcechogbcdnaaDoorW.PrintMore
set_option linter.unusedVariables false
set_option linter.unusedSimpArgs false
theorem word_all : ∀ n : Fin 256, switchyardref07_word.f ((n.val : Nat) : Int) = some (wordC (UInt8.ofNat n.val)) := by decide +kernel
theorem word_code (c : UInt8) : switchyardref07_word.f (c.toNat : Int) = some (wordC c) := by
  have := word_all ⟨c.toNat, c.toNat_lt⟩
  simpa using this
def dtokRes (a : Nat) : Option Tk → Int × ByteArray × Int × Int × Int
  | some (k, t, v, n) => (k, mk t, v, (a : Int), (n : Int))
  | none => (0, (⟨#[]⟩ : ByteArray), 0, 0, 0)
theorem ext_drop (l : List UInt8) (a b : Nat) : (mk l).extract ((a : Int)).toNat ((b : Int)).toNat = mk ((l.drop a).take (b - a)) := by
  rw [Int.toNat_natCast, Int.toNat_natCast, mk_ext, List.drop_take]
/-- The word's loop. -/
theorem dword_loop (l : List UInt8) (hl : l.length ≤ 8000) (a f e : Nat) (kind : Int) (haf : a ≤ f) (hfe : f ≤ e) (he : e ≤ l.length) (hin : ∀ j (h : j < e) (h2 : f ≤ j), wordC (l[j]'(by omega)) = true) (hend : ∀ h : e < l.length, wordC l[e] = false) : ∀ d i : Nat, i + d = e → f ≤ i → Ev (fun k => switchyardref07_token.l0 k (mk l) (a : Int) (f : Int) kind (i : Int)) (if nameL ((l.drop f).take (e - f)) = true then (kind, mk ((l.drop f).take (e - f)), 0, (a : Int), ((e - a : Nat) : Int)) else (0, (⟨#[]⟩ : ByteArray), 0, 0, 0)) := by
  have hname : ∀ R, R = (if nameL ((l.drop f).take (e - f)) = true then (kind, mk ((l.drop f).take (e - f)), (0 : Int), (a : Int), ((e - a : Nat) : Int)) else (0, (⟨#[]⟩ : ByteArray), 0, 0, 0)) → Ev (fun k => ((switchyardref06_Name.f k ((mk l).extract ((f : Int)).toNat ((e : Int)).toNat)).bind fun t241 => (if t241 = true then (some (kind, (mk l).extract ((f : Int)).toNat ((e : Int)).toNat, (0 : Int), (a : Int), wrap64 ((e : Int) - (a : Int)))) else (some (0, (⟨#[]⟩ : ByteArray), 0, 0, 0))))) R := by
    rintro R rfl
    rw [ext_drop, w_sub (show a ≤ e by omega) (by omega)]
    refine Ev.bind (name_ev _ (by rw [mk_size, List.length_take]; omega)) ?_
    by_cases hn : nameL ((l.drop f).take (e - f)) = true
    · rw [if_pos hn]; exact Ev.pos hn (Ev.now _)
    · rw [if_neg hn]; exact Ev.neg hn (Ev.now _)
  intro d
  induction d with
  | zero =>
    intro i hi hf
    obtain rfl : i = e := by omega
    refine Ev.step (fun k => by simp only [switchyardref07_token.l0]; rfl) ?_
    by_cases hlt : i < l.length
    · rw [bt_mk hlt, word_code, hend hlt]
      exact Ev.pos (by rw [mk_size]; omega) (Ev.pos (by omega) (Ev.bind (Ev.now _) (Ev.neg (by simp) (Ev.pos (by omega) (Ev.pos (by omega) (Ev.pos (by rw [mk_size]; omega) (hname _ rfl)))))))
    · exact Ev.neg (by rw [mk_size]; omega) (Ev.pos (by omega) (Ev.pos (by omega) (Ev.pos (by rw [mk_size]; omega) (hname _ rfl))))
  | succ d ih =>
    intro i hi hf
    have hlt : i < l.length := by omega
    refine Ev.step (fun k => by simp only [switchyardref07_token.l0]; rfl) ?_
    rw [bt_mk hlt, word_code, hin i (by omega) hf, wr_succ hlt (by omega)]
    exact Ev.pos (by rw [mk_size]; omega) (Ev.pos (by omega) (Ev.bind (Ev.now _) (Ev.pos rfl (ih (i + 1) (by omega) (by omega)))))
theorem tw_in_at {p : UInt8 → Bool} (l : List UInt8) (f : Nat) (hf : f ≤ l.length) : (∀ j (h : j < f + ((l.drop f).takeWhile p).length) (h2 : f ≤ j), p (l[j]'(by have := tw_le (p := p) (l.drop f); rw [List.length_drop] at this; omega)) = true) ∧ (∀ h : f + ((l.drop f).takeWhile p).length < l.length, p l[f + ((l.drop f).takeWhile p).length] = false) := by
  refine ⟨fun j h h2 => ?_, fun h => ?_⟩
  · have := tw_in (p := p) (l.drop f) (j - f) (by omega)
    simp only [List.getElem_drop] at this
    simpa [show f + (j - f) = j by omega] using this
  · have := tw_end (p := p) (l.drop f) (by rw [List.length_drop]; omega)
    simp only [List.getElem_drop] at this
    exact this
theorem dword_ev (l : List UInt8) (hl : l.length ≤ 8000) (a f : Nat) (kind : Int) (haf : a ≤ f) (hf : f ≤ l.length) : Ev (fun k => switchyardref07_token.j1 k (mk l) (a : Int) (f : Int) kind) (dtokRes a (wordTk kind ((l.drop f).takeWhile wordC) (f - a + ((l.drop f).takeWhile wordC).length))) := by
  obtain ⟨h1, h2⟩ := tw_in_at (p := wordC) l f hf
  have hle := tw_le (p := wordC) (l.drop f)
  rw [List.length_drop] at hle
  have := dword_loop l hl a f (f + ((l.drop f).takeWhile wordC).length) kind haf (by omega) (by omega) h1 h2 ((l.drop f).takeWhile wordC).length f rfl (by omega)
  rw [show f + ((l.drop f).takeWhile wordC).length - f = ((l.drop f).takeWhile wordC).length by omega, tw_take] at this
  refine Ev.step (fun k => by simp only [switchyardref07_token.j1]; rfl) ?_
  unfold wordTk
  by_cases hn : nameL ((l.drop f).takeWhile wordC) = true
  · rw [if_pos hn] at this ⊢
    rw [show f + ((l.drop f).takeWhile wordC).length - a = f - a + ((l.drop f).takeWhile wordC).length by omega] at this
    exact this
  · rw [if_neg hn] at this ⊢
    exact this
/-- The number's loop. -/
theorem dnum_loop (l : List UInt8) (hl : l.length ≤ 8000) (a e : Nat) (hae : a < e) (he : e ≤ l.length) (hin : ∀ j (h : j < e) (h2 : a ≤ j), digC (l[j]'(by omega)) = true) (hend : ∀ h : e < l.length, digC l[e] = false) (hw : ∀ c ∈ (l.drop a).take (e - a), digC c = true) : ∀ d i : Nat, i + d = e → a ≤ i → Ev (fun k => switchyardref07_token.l1 k (mk l) (a : Int) (i : Int)) (dtokRes a (numTk ((l.drop a).take (e - a)))) := by
  have hlen : ((l.drop a).take (e - a)).length = e - a := by rw [List.length_take, List.length_drop]; omega
  have hne : (l.drop a).take (e - a) ≠ [] := by intro h; rw [h] at hlen; simp at hlen; omega
  have hnum : Ev (fun k => ((switchyardref07_digits.f k ((mk l).extract ((a : Int)).toNat ((e : Int)).toNat)).bind fun bt243 => (if bt243.2 = true then (some ((2 : Int), (mk l).extract ((a : Int)).toNat ((e : Int)).toNat, bt243.1, (a : Int), wrap64 ((e : Int) - (a : Int)))) else (some (0, (⟨#[]⟩ : ByteArray), 0, 0, 0))))) (dtokRes a (numTk ((l.drop a).take (e - a)))) := by
    rw [ext_drop, w_sub (show a ≤ e by omega) (by omega)]
    refine Ev.bind (ddigits_ev _ hne hw (by omega)) ?_
    unfold numTk
    by_cases hc : valD ((l.drop a).take (e - a)) < 9223372036854775808 ∧ ¬ (1 < ((l.drop a).take (e - a)).length ∧ ((l.drop a).take (e - a)).head? = some 48)
    · rw [if_pos hc, if_pos hc]
      refine Ev.pos rfl (Ev.val ?_)
      simp only [dtokRes, hlen]
    · rw [if_neg hc, if_neg hc]
      exact Ev.neg (by simp) (Ev.now _)
  intro d
  induction d with
  | zero =>
    intro i hi ha
    obtain rfl : i = e := by omega
    refine Ev.step (fun k => by simp only [switchyardref07_token.l1]; rfl) ?_
    by_cases hlt : i < l.length
    · have hd := hend hlt
      unfold digC at hd
      rw [decide_eq_false_iff_not] at hd
      rw [bt_mk hlt]
      refine Ev.pos (by rw [mk_size]; omega) (Ev.pos (by omega) ?_)
      by_cases h48 : 48 ≤ l[i].toNat
      · exact Ev.pos (by omega) (Ev.neg (by omega) (Ev.pos (by omega) (Ev.pos (by omega) (Ev.pos (by rw [mk_size]; omega) hnum))))
      · exact Ev.neg (by omega) (Ev.pos (by omega) (Ev.pos (by omega) (Ev.pos (by rw [mk_size]; omega) hnum)))
    · exact Ev.neg (by rw [mk_size]; omega) (Ev.pos (by omega) (Ev.pos (by omega) (Ev.pos (by rw [mk_size]; omega) hnum)))
  | succ d ih =>
    intro i hi ha
    have hlt : i < l.length := by omega
    obtain ⟨d1, d2⟩ := dig_bounds (hin i (by omega) ha)
    refine Ev.step (fun k => by simp only [switchyardref07_token.l1]; rfl) ?_
    rw [bt_mk hlt, wr_succ hlt (by omega)]
    exact Ev.pos (by rw [mk_size]; omega) (Ev.pos (by omega) (Ev.pos (by omega) (Ev.pos (by omega) (ih (i + 1) (by omega) (by omega)))))
theorem dnum_ev (l : List UInt8) (hl : l.length ≤ 8000) (a : Nat) (ha : a ≤ l.length) (h0 : 0 < ((l.drop a).takeWhile digC).length) : Ev (fun k => switchyardref07_token.l1 k (mk l) (a : Int) (a : Int)) (dtokRes a (numTk ((l.drop a).takeWhile digC))) := by
  obtain ⟨h1, h2⟩ := tw_in_at (p := digC) l a ha
  have hle := tw_le (p := digC) (l.drop a)
  rw [List.length_drop] at hle
  have e1 : a + ((l.drop a).takeWhile digC).length - a = ((l.drop a).takeWhile digC).length := by omega
  have := dnum_loop l hl a (a + ((l.drop a).takeWhile digC).length) (by omega) (by omega) h1 h2 (by rw [e1, tw_take]; exact tw_all _) ((l.drop a).takeWhile digC).length a rfl (by omega)
  rw [e1, tw_take] at this
  exact this
/-- The signs' loop. -/
theorem sgn_rd (j : Nat) (h : j < signL.length) : rdOf ByteArray.empty (signL.map mk) (j : Int) = mk signL[j] := by
  unfold rdOf
  simp [List.getD, h]
theorem signs_code : switchyardref07_signs.f = some (signL.map mk) := rfl
theorem dsign_loop (l : List UInt8) (hl : l.length ≤ 8000) (a : Nat) (ha : a ≤ l.length) : ∀ d j : Nat, j + d = signL.length → Ev (fun k => switchyardref07_token.l2 k (mk l) (a : Int) (signL.map mk) ((signL.map mk).length : Int) (j : Int)) (dtokRes a (((signL.drop j).find? (fun z => z.isPrefixOf (l.drop a))).map fun z => (5, z, 0, z.length))) := by
  intro d
  induction d with
  | zero =>
    intro j hj
    refine Ev.step (fun k => by simp only [switchyardref07_token.l2]; rfl) (Ev.neg (by rw [List.length_map]; omega) (Ev.val ?_))
    rw [List.drop_eq_nil_of_le (show signL.length ≤ j by omega)]; rfl
  | succ d ih =>
    intro j hj
    have hlt : j < signL.length := by omega
    have h27 : signL.length = 27 := rfl
    have next := ih (j + 1) (by omega)
    have hz2 : signL[j].length ≤ 2 := by
      have : ∀ z ∈ signL, z.length ≤ 2 := by decide
      exact this _ (List.getElem_mem hlt)
    rw [List.drop_eq_getElem_cons hlt, List.find?_cons]
    refine Ev.step (fun k => by simp only [switchyardref07_token.l2]; rfl) ?_
    rw [sgn_rd j hlt]
    generalize signL[j] = z at hz2 ⊢
    have ea : wrap64 ((a : Int) + ((mk z).size : Int)) = ((a + z.length : Nat) : Int) := by rw [mk_size]; exact w_add (by omega)
    have ej : wrap64 ((j : Int) + 1) = ((j + 1 : Nat) : Int) := w_c1 j (by omega)
    simp only [ea, ej]
    clear ea ej
    refine Ev.pos (by rw [List.length_map]; omega) (Ev.pos (by omega) (Ev.pos (by rw [List.length_map]; omega) ?_))
    by_cases hp : z.isPrefixOf (l.drop a) = true
    · rw [hp]
      have hpre := List.isPrefixOf_iff_prefix.1 hp
      have hle := hpre.length_le
      rw [List.length_drop] at hle
      refine Ev.pos (by rw [mk_size]; omega) (Ev.pos (by omega) (Ev.pos (by omega) (Ev.pos ?_ (Ev.val ?_))))
      · rw [ext_drop, mkT, mkT, show a + z.length - a = z.length by omega]
        exact (List.prefix_iff_eq_take.1 hpre).symm
      · simp [dtokRes, mk_size]
    · have hpf : z.isPrefixOf (l.drop a) = false := Bool.eq_false_iff.2 hp
      rw [hpf]
      by_cases hin : a + z.length ≤ l.length
      · refine Ev.pos (by rw [mk_size]; omega) (Ev.pos (by omega) (Ev.pos (by omega) (Ev.neg ?_ next)))
        rw [ext_drop, mkT, mkT, show a + z.length - a = z.length by omega]
        intro h
        apply hp
        rw [List.isPrefixOf_iff_prefix, ← h]
        exact List.take_prefix _ _
      · exact Ev.neg (by rw [mk_size]; omega) next
theorem dtoken_ev (l r : List UInt8) (c : UInt8) (hl : l.length ≤ 8000) (a : Nat) (ha : l.drop a = c :: r) : Ev (fun k => switchyardref07_token.f k (mk l) (a : Int)) (dtokRes a (tokL (c :: r))) := by
  obtain ⟨hi, hb⟩ := bt_drop ha
  have hq := u8_lt c
  have sign : ∀ k0 : Bool, k0 = false → ¬ (c.toNat : Int) = 34 → Ev (fun k => switchyardref07_token.j3 k (mk l) (a : Int) (c.toNat : Int) k0) (dtokRes a (signTk (c :: r))) := by
    intro k0 hk h34
    refine Ev.step (fun k => by simp only [switchyardref07_token.j3]; rfl) (Ev.neg (by simp [hk]) (Ev.neg h34 ?_))
    rw [signs_code]
    refine Ev.bind (Ev.now _) ?_
    have := dsign_loop l hl a (by omega) signL.length 0 (by omega)
    rw [ha] at this
    exact this
  have other : ¬ letC c = true → ¬ c = 39 → Ev (fun k => switchyardref07_token.j0 k (mk l) (a : Int) (c.toNat : Int) false) (dtokRes a (tokL (c :: r))) := by
    intro h1 h39
    rw [tokL_cons, if_neg h1]
    refine Ev.step (fun k => by simp only [switchyardref07_token.j0]; rfl) (Ev.neg (by simp) ?_)
    by_cases h2 : digC c = true
    · obtain ⟨d1, d2⟩ := dig_bounds h2
      rw [if_pos h2]
      refine Ev.pos (by omega) ?_
      refine Ev.step (fun k => by simp only [switchyardref07_token.j3]; rfl) (Ev.pos (by simp; omega) ?_)
      have := dnum_ev l hl a (by omega) (by rw [ha, List.takeWhile_cons, if_pos h2]; simp)
      rw [ha] at this
      exact this
    · have hd : ¬ (48 ≤ c.toNat ∧ c.toNat ≤ 57) := by simpa [digC] using h2
      rw [if_neg h2]
      have tail : ∀ k0 : Bool, k0 = false → Ev (fun k => switchyardref07_token.j3 k (mk l) (a : Int) (c.toNat : Int) k0) (dtokRes a (if c = 34 then textTk (c :: r) else if c = 39 then wordTk 4 (r.takeWhile wordC) (1 + (r.takeWhile wordC).length) else signTk (c :: r))) := by
        intro k0 hk
        by_cases h34 : c = 34
        · subst h34
          rw [if_pos rfl]
          refine Ev.step (fun k => by simp only [switchyardref07_token.j3]; rfl) (Ev.neg (by simp [hk]) (Ev.pos (by rfl) ?_))
          rcases dtext l r hl a ha with ⟨t, n, e, n2, n3, q1, q2⟩ | ⟨e, q1 | ⟨n, t, n2, n3, q1, q2⟩⟩
          · rw [e]
            refine Ev.bind q1 (Ev.neg (by omega) (Ev.pos (by omega) ?_))
            rw [w_add (show a + n ≤ 4611686018427387904 by omega), Int.toNat_natCast, Int.toNat_natCast, mk_ext]
            exact Ev.pos (by omega) (Ev.pos (by rw [mk_size]; omega) (Ev.bind q2 (Ev.pos rfl (Ev.now _))))
          · rw [e]
            exact Ev.bind q1 (Ev.pos rfl (Ev.now _))
          · rw [e]
            refine Ev.bind q1 (Ev.neg (by omega) (Ev.pos (by omega) ?_))
            rw [w_add (show a + n ≤ 4611686018427387904 by omega), Int.toNat_natCast, Int.toNat_natCast, mk_ext]
            exact Ev.pos (by omega) (Ev.pos (by rw [mk_size]; omega) (Ev.bind q2 (Ev.neg (by simp) (Ev.now _))))
        · rw [if_neg h34, if_neg h39]
          exact sign k0 hk (fun h => h34 ((cc_iff c 34 (by decide)).1 h))
      by_cases h48 : 48 ≤ c.toNat
      · exact Ev.pos (by omega) (tail _ (by simp; omega))
      · exact Ev.neg (by omega) (tail _ rfl)
  unfold switchyardref07_token.f
  rw [hb, word_code]
  refine Ev.pos (by omega) (Ev.pos (by rw [mk_size]; omega) ?_)
  by_cases h39 : c = 39
  · subst h39
    refine Ev.pos (by rfl) ?_
    refine Ev.step (fun k => by simp only [switchyardref07_token.j0]; rfl) (Ev.pos (by trivial) (Ev.pos (by rfl) ?_))
    rw [wr_succ hi (by omega)]
    have := dword_ev l hl a (a + 1) 4 (by omega) (by omega)
    rw [drop_next ha, show a + 1 - a = 1 by omega] at this
    rw [tokL_cons, if_neg (by decide), if_neg (by decide), if_neg (by decide), if_pos rfl]
    exact this
  · refine Ev.neg (fun h => h39 ((cc_iff c 39 (by decide)).1 h)) (Ev.bind (Ev.now _) ?_)
    by_cases h1 : letC c = true
    · have hl1 : (97 ≤ c.toNat ∧ c.toNat ≤ 122) ∨ (65 ≤ c.toNat ∧ c.toNat ≤ 90) := by simpa [letC] using h1
      refine Ev.pos (let_word h1) (Ev.neg (by omega) (Ev.pos (by omega) ?_))
      have h95 : ((c.toNat : Int) != 95) = true := by rw [bne_iff_ne]; omega
      rw [h95]
      refine Ev.step (fun k => by simp only [switchyardref07_token.j0]; rfl) (Ev.pos (by trivial) (Ev.neg (by omega) ?_))
      have := dword_ev l hl a a 1 (by omega) (by omega)
      rw [ha, show a - a = 0 by omega, Nat.zero_add] at this
      rw [tokL_cons, if_pos h1]
      exact this
    · have oth := other h1 h39
      by_cases hw : wordC c = true
      · refine Ev.pos hw ?_
        by_cases h48 : c.toNat < 48
        · exfalso
          have : ¬ digC c = true := fun h => by have := dig_bounds h; omega
          have h95 : ¬ (c == 95) = true := fun h => by rw [beq_iff_eq.1 h] at h48; exact absurd h48 (by decide)
          simp only [wordC, Bool.or_eq_true] at hw
          rcases hw with (h | h) | h
          · exact h1 h
          · exact this h
          · exact h95 h
        · refine Ev.neg (by omega) ?_
          by_cases h57 : 57 < c.toNat
          · refine Ev.pos (by omega) ?_
            have hd : ¬ digC c = true := fun h => by have := dig_bounds h; omega
            have h95 : c = 95 := by
              simp only [wordC, Bool.or_eq_true] at hw
              rcases hw with (h | h) | h
              · exact absurd h h1
              · exact absurd h hd
              · exact beq_iff_eq.1 h
            rw [show ((c.toNat : Int) != 95) = false by rw [h95]; rfl]
            exact oth
          · exact Ev.neg (by omega) oth
      · exact Ev.neg hw oth
theorem dscan_loop (l : List UInt8) (hl : l.length ≤ 8000) : ∀ (f i : Nat) (out : List S32), l.length - i < f → i ≤ l.length → out.length ≤ i → Ev (fun k => switchyardref07_Scan.l0 k (mk l) out (i : Int)) (scanRes out (scanF f i (l.drop i))) := by
  intro f
  induction f with
  | zero => intro i out h; omega
  | succ f ih =>
    intro i out hf hi ho
    refine Ev.step (fun k => by simp only [switchyardref07_Scan.l0]; rfl) ?_
    by_cases hlt : i < l.length
    · have hdr := List.drop_eq_getElem_cons hlt
      generalize l[i] = c at hdr
      generalize hY : l.drop (i + 1) = Y at hdr
      have hYl : (c :: Y).length = l.length - i := by rw [← hdr, List.length_drop]
      refine Ev.pos (by rw [mk_size]; omega) (Ev.bind (dtoken_ev l Y c hl i hdr) ?_)
      rw [hdr]
      cases hx : tokL (c :: Y) with
      | none =>
        refine Ev.pos (by rfl) (Ev.val ?_)
        simp only [scanF, hx]; rfl
      | some x =>
        obtain ⟨h1, h2⟩ := tok_len _ _ hx
        rw [hYl] at h2
        rw [scan_step f i c Y out x hx]
        obtain ⟨xk, xt, xv, n⟩ := x
        simp only at h1 h2 ⊢
        have hd2 : (c :: Y).drop n = l.drop (i + n) := by rw [← hdr, List.drop_drop]
        have hbl := bm_le false (l.drop (i + n))
        rw [List.length_drop] at hbl
        have k1 : i + n ≤ 4611686018427387904 := by omega
        have k2 : i + n + bm false (l.drop (i + n)) ≤ 4611686018427387904 := by omega
        rw [hd2, List.drop_drop]
        simp only [dtokRes, w_add k1]
        refine Ev.neg (by omega) (Ev.pos (by omega) (Ev.bind (dblanks_ev l hl (i + n) (by omega)) ?_))
        rw [w_add k2]
        exact ih _ _ (by omega) (by omega) (by simp only [List.length_append, List.length_cons, List.length_nil]; omega)
    · rw [List.drop_eq_nil_of_le (by omega)]
      refine Ev.neg (by rw [mk_size]; omega) (Ev.pos (by omega) (Ev.val ?_))
      rfl
theorem dscan_ev (l : List UInt8) (hl : l.length ≤ 8000) : Ev (fun k => switchyardref07_Scan.f k (mk l)) (scanRes [] (scanL l)) := by
  unfold switchyardref07_Scan.f
  have hb := bm_le false l
  refine Ev.neg (by rw [mk_size]; omega) (Ev.bind (dblanks_ev l hl 0 (by omega)) ?_)
  exact dscan_loop l hl (l.length + 1) (bm false l) [] (by omega) hb (by simp)
theorem dscan_long (l : List UInt8) (hl : ¬ l.length ≤ 8000) : Ev (fun k => switchyardref07_Scan.f k (mk l)) (([] : List S32), 0, 5) := by
  unfold switchyardref07_Scan.f
  exact Ev.pos (by rw [mk_size]; omega) (Ev.now _)
theorem same_loop (l : List S32) (hl : l.length ≤ 4611686018427387904) : ∀ d i : Nat, i + d = l.length → Ev (fun k => switchyardref07_Same.l0 k l l (l.length : Int) (i : Int)) true := by
  intro d
  induction d with
  | zero =>
    intro i hi
    exact Ev.step (fun k => by simp only [switchyardref07_Same.l0]; rfl) (Ev.neg (by omega) (Ev.now _))
  | succ d ih =>
    intro i hi
    have hlt : i < l.length := by omega
    refine Ev.step (fun k => by simp only [switchyardref07_Same.l0]; rfl) ?_
    rw [wr_succ hlt (by omega)]
    exact Ev.pos (by omega) (Ev.pos (by omega) (Ev.pos (by omega) (Ev.pos (by omega) (Ev.neg (by simp) (ih (i + 1) (by omega))))))
theorem same_ev (l : List S32) (hl : l.length ≤ 4611686018427387904) : Ev (fun k => switchyardref07_Same.f k l l) true := by
  unfold switchyardref07_Same.f
  exact Ev.pos rfl (same_loop l hl l.length 0 (by omega))
end Go.Proofs.YtdjcechogbcdnaaDoor.XL
namespace Go.Proofs.YtdjcechogbcdnaaDoor.XL
open Go.RowKit Go.Proofs.YtdjcechogbcdnaaDoorW.PrintWords Go.Proofs.YtdjcechogbcdnaaDoorW.PrintLast Go.Proofs.YtdjcechogbcdnaaDoorW.PrintMore
set_option linter.unusedVariables false
set_option linter.unusedSimpArgs false
theorem scanF_some {f a : Nat} {c : UInt8} {r : List UInt8} {x : Tk} (h : tokL (c :: r) = some x) : scanF (f + 1) a (c :: r) = (match scanF f (a + x.2.2.2 + bm false ((c :: r).drop x.2.2.2)) (((c :: r).drop x.2.2.2).drop (bm false ((c :: r).drop x.2.2.2))) with | .inl ts => .inl (⟨x.1, mk x.2.1, x.2.2.1, (a : Int)⟩ :: ts) | .inr e => .inr e) := by
  simp only [scanF, h]; rfl
theorem scanF_none {f a : Nat} {c : UInt8} {r : List UInt8} (h : tokL (c :: r) = none) : scanF (f + 1) a (c :: r) = .inr a := by
  simp only [scanF, h]
theorem aw1 : scanL [97, 45, 62, 98, 32, 47, 47, 32, 99] = .inl [⟨1, mk [97], 0, 0⟩, ⟨5, mk [45, 62], 0, 1⟩, ⟨1, mk [98], 0, 3⟩, ⟨0, ⟨#[]⟩, 0, 9⟩] := by
  have t1 : tokL [97, 45, 62, 98, 32, 47, 47, 32, 99] = some (1, [97], 0, 1) := by rw [tokL_cons, if_pos (by decide)]; decide +kernel
  have t2 : tokL [45, 62, 98, 32, 47, 47, 32, 99] = some (5, [45, 62], 0, 2) := by rw [tokL_cons, if_neg (by decide), if_neg (by decide), if_neg (by decide), if_neg (by decide)]; decide +kernel
  have t3 : tokL [98, 32, 47, 47, 32, 99] = some (1, [98], 0, 1) := by rw [tokL_cons, if_pos (by decide)]; decide +kernel
  have b0 : bm false [97, 45, 62, 98, 32, 47, 47, 32, 99] = 0 := by decide
  have b1 : bm false [45, 62, 98, 32, 47, 47, 32, 99] = 0 := by decide
  have b2 : bm false [98, 32, 47, 47, 32, 99] = 0 := by decide
  have b3 : bm false [32, 47, 47, 32, 99] = 5 := by decide
  unfold scanL
  rw [b0]
  show scanF 10 0 [97, 45, 62, 98, 32, 47, 47, 32, 99] = _
  rw [scanF_some t1]
  simp only [List.drop_succ_cons, List.drop_zero, b1]
  rw [scanF_some t2]
  simp only [List.drop_succ_cons, List.drop_zero, b2]
  rw [scanF_some t3]
  simp only [List.drop_succ_cons, List.drop_zero, b3]
  rfl
theorem aw2 : scanL [48, 49] = .inr 0 := by
  have t1 : tokL [48, 49] = none := by rw [tokL_cons, if_neg (by decide), if_pos (by decide)]; decide +kernel
  have b0 : bm false [48, 49] = 0 := by decide
  unfold scanL
  rw [b0]
  exact scanF_none t1
theorem aw3 : scanL [34, 92, 113, 34] = .inr 0 := by
  have t1 : tokL [34, 92, 113, 34] = none := by
    rw [tokL_cons, if_neg (by decide), if_neg (by decide), if_pos rfl]
    refine textTk_none fun t _ h => ?_
    obtain ⟨x, hx⟩ := h
    cases t with
    | nil => simp [prt] at hx
    | cons b t =>
      have no : ∀ n : Fin 256, ¬ (enc (UInt8.ofNat n.val)).isPrefixOf [92, 113, 34] = true := by decide +kernel
      apply no ⟨b.toNat, b.toNat_lt⟩
      simp only [UInt8.ofNat_toNat]
      rw [List.isPrefixOf_iff_prefix]
      unfold prt at hx
      rw [List.cons_append] at hx
      have := (List.cons.inj hx).2
      rw [← this, List.flatMap_cons, List.append_assoc, List.append_assoc]
      exact List.prefix_append _ _
  have b0 : bm false [34, 92, 113, 34] = 0 := by decide
  unfold scanL
  rw [b0]
  exact scanF_none t1
theorem aw4 : scanL [39] = .inr 0 := by
  have t1 : tokL [39] = none := by rw [tokL_cons, if_neg (by decide), if_neg (by decide), if_neg (by decide), if_pos rfl]; decide +kernel
  have b0 : bm false [39] = 0 := by decide
  unfold scanL
  rw [b0]
  exact scanF_none t1
theorem awake_ev : Ev (fun k => switchyardlaw07_awake.f k) true := by
  have h1 := scan_ev [97, 45, 62, 98, 32, 47, 47, 32, 99] (by decide)
  have h2 := scan_ev [48, 49] (by decide)
  have h3 := scan_ev [34, 92, 113, 34] (by decide)
  have h4 := scan_ev [39] (by decide)
  rw [aw1] at h1
  rw [aw2] at h2
  rw [aw3] at h3
  rw [aw4] at h4
  unfold switchyardlaw07_awake.f
  refine Ev.bind h1 (Ev.bind h2 (Ev.bind h3 (Ev.bind h4 ?_)))
  refine Ev.pos rfl (Ev.pos rfl (Ev.pos (by decide) (Ev.pos ?_ (Ev.pos (by decide) (Ev.pos rfl (Ev.pos rfl (Ev.pos rfl (Ev.pos rfl (Ev.now _)))))))))
  show (mk [45, 62]).toList = _
  rw [mkT]
theorem scan_len : ∀ (f a : Nat) (l : List UInt8) (ts : List S32), scanF f a l = .inl ts → ts.length ≤ f
  | 0, a, l, ts, h => by cases h
  | f + 1, a, [], ts, h => by
    have : ts = [⟨0, (⟨#[]⟩ : ByteArray), 0, (a : Int)⟩] := (Sum.inl.inj h).symm
    rw [this]; simp
  | f + 1, a, c :: r, ts, h => by
    cases hx : tokL (c :: r) with
    | none => rw [scanF_none hx] at h; cases h
    | some x =>
      rw [scanF_some hx] at h
      split at h
      · rename_i us hu
        have := scan_len f _ _ us hu
        rw [← Sum.inl.inj h, List.length_cons]; omega
      · cases h
theorem scanRes_len (l : List UInt8) (hl : l.length ≤ 8000) : (scanRes [] (scanL l)).1.length ≤ 8001 := by
  cases h : scanL l with
  | inl ts =>
    have := scan_len _ _ _ _ h
    simp only [scanRes, List.nil_append]; omega
  | inr e => simp [scanRes]
theorem lexScans_ev (a0 : ByteArray) : Ev (fun k => switchyardlaw07_LexScans.f k a0) true := by
  rw [← mk_data a0]
  generalize a0.data.toList = l
  unfold switchyardlaw07_LexScans.f
  refine Ev.bind awake_ev (Ev.pos rfl ?_)
  by_cases hl : l.length ≤ 8000
  · refine Ev.bind (scan_ev l hl) (Ev.bind (dscan_ev l hl) (Ev.bind awake_ev (Ev.pos rfl ?_)))
    have := scanRes_len l hl
    exact Ev.bind (same_ev _ (by omega)) (Ev.pos rfl (Ev.pos rfl (Ev.val (by simp))))
  · exact Ev.bind (scan_long l hl) (Ev.bind (dscan_long l hl) (Ev.bind awake_ev (Ev.pos rfl (Ev.bind (same_ev _ (by decide)) (Ev.pos rfl (Ev.pos rfl (Ev.val (by simp))))))))
end Go.Proofs.YtdjcechogbcdnaaDoor.XL
namespace Go.Proofs.YtdjcechogbcdnaaDoor.XL
open Go.RowKit Go.Proofs.YtdjcechogbcdnaaDoorW.PrintWords Go.Proofs.YtdjcechogbcdnaaDoorW.PrintLast Go.Proofs.YtdjcechogbcdnaaDoorW.PrintMore
set_option linter.unusedVariables false in
theorem scans_walk (a0 : ByteArray) (W : World) (hG0 : a0.size ≤ 140737488351232) (hT : Tabs W) :
    Calls Tryd.prog 3 #[.string a0] W fun e w' => e = .returned (.bool true) ∧ Below W.heap.size W w' := by
  obtain ⟨k, hk⟩ := Ev.rounds (lexScans_ev a0)
  exact switchyardlaw07_LexScans.calls k a0 true W hk hT
end Go.Proofs.YtdjcechogbcdnaaDoor.XL
namespace Go.Proofs.YtdjcechogbcdnaaDoor.Open
open Go.RowKit Go.Proofs.YtdjcechogbcdnaaDoorW.PrintWords
set_option linter.unusedVariables false
/-- Whatever reads as data of type t, with rounds up to n and all its weights within the reach, is a value of the kind k that meets G. -/
def Opens {α : Type} (n : Nat) (P : Program) (t : TypeId) (k : Kd α) (G : α → Prop) : Prop :=
  ∀ (H : Type) (enc : TypeId × Value → H) (w : World) (sp : Nat → Bool) (held : Bool) (fuel : Nat) (cs : List Value) (x : DataW H × List MemPlace), fuel ≤ n →
    DataW.trod enc P w 0 sp held fuel t cs = some x → (∀ b ∈ x.1.weights P t, b ≤ reachBytes) → ∃ v, k.K w v cs ∧ G v
theorem Opens.zero {α : Type} {P : Program} {t : TypeId} {k : Kd α} {G : α → Prop} : Opens 0 P t k G := by
  intro H enc w sp held fuel cs x hf ht hw
  obtain rfl : fuel = 0 := by omega
  simp [DataW.trod] at ht
/-- Fields in line, from the offset on. -/
def OpensF {α : Type} (n : Nat) (P : Program) (off : Nat) (fs : List Field) (k : Kd α) (G : α → Prop) : Prop :=
  ∀ (H : Type) (enc : TypeId × Value → H) (w : World) (sp : Nat → Bool) (held : Bool) (fuel : Nat) (cs : List Value) (xs : List (DataW H × List MemPlace)), fuel ≤ n → cs.length = off + k.sz → xs.length = fs.length →
    (∀ (i : Nat) (f : Field), fs[i]? = some f → DataW.trod enc P w 0 sp held fuel f.type ((cs.drop f.offset).take (P.cellsOf f.type)) = xs[i]?) →
    (∀ b ∈ DataW.weightsEach P (fs.map Field.type) (xs.map (·.1)), b ≤ reachBytes) → ∃ v, k.K w v (cs.drop off) ∧ G v
theorem OpensF.last {α : Type} {n : Nat} {P : Program} {off : Nat} {f : Field} {k : Kd α} {G : α → Prop} (ho : f.offset = off) (hc : P.cellsOf f.type = k.sz) (h : Opens n P f.type k G) : OpensF n P off [f] k G := by
  intro H enc w sp held fuel cs xs hf hl hxl hall hw
  match xs, hxl with
  | [x], _ =>
    have h1 := hall 0 f rfl
    rw [ho, hc, List.take_of_length_le (by rw [List.length_drop]; omega)] at h1
    exact h H enc w sp held fuel _ x hf h1 (fun b hb => hw b (by simpa [DataW.weightsEach] using hb))
theorem OpensF.cons {α β : Type} {n : Nat} {P : Program} {off : Nat} {f : Field} {fs : List Field} {k : Kd α} {k' : Kd β} {G : α → Prop} {G' : β → Prop} (ho : f.offset = off) (hc : P.cellsOf f.type = k.sz)
    (h : Opens n P f.type k G) (h' : OpensF n P (off + k.sz) fs k' G') : OpensF n P off (f :: fs) (Kd.pair k k') (fun v => G v.1 ∧ G' v.2) := by
  intro H enc w sp held fuel cs xs hf hl hxl hall hw
  match xs, hxl with
  | x :: xs, hxl =>
    have hl' : cs.length = off + (k.sz + k'.sz) := hl
    have h1 := hall 0 f rfl
    rw [ho, hc] at h1
    obtain ⟨v, hk, hg⟩ := h H enc w sp held fuel _ x hf h1 (fun b hb => hw b (by simp only [List.map_cons, DataW.weightsEach, List.mem_append]; exact Or.inl hb))
    obtain ⟨v', hk', hg'⟩ := h' H enc w sp held fuel cs xs hf (by omega) (by simpa using hxl) (fun i g hi => by simpa using hall (i + 1) g (by simpa using hi)) (fun b hb => hw b (by simp only [List.map_cons, DataW.weightsEach, List.mem_append]; exact Or.inr hb))
    refine ⟨(v, v'), ⟨_, _, ?_, hk, hk'⟩, hg, hg'⟩
    rw [← List.drop_drop]
    exact (List.take_append_drop _ _).symm
/-- A kind told otherwise. -/
theorem Opens.of {α β : Type} {n : Nat} {P : Program} {t : TypeId} {k : Kd α} {k' : Kd β} {G : α → Prop} {G' : β → Prop} (h : Opens n P t k G) (f : α → β) (hk : ∀ w v cs, k.K w v cs → k'.K w (f v) cs) (hg : ∀ v, G v → G' (f v)) : Opens n P t k' G' := by
  intro H enc w sp held fuel cs x hf ht hw
  obtain ⟨v, hkv, hv⟩ := h H enc w sp held fuel cs x hf ht hw
  exact ⟨f v, hk _ _ _ hkv, hg v hv⟩
theorem tab_of_reads {P : Program} {W : World} {l : List (String × DataW Unit)} {name : String} {k : IntKind} {zs : List Int} {g : Nat} {t e : TypeId} {n : Nat} (hp : (l.all fun x => x.2.handleName?.isNone) = true) (h : laidMetH P l W) (hm : (name, Lib.tabData k zs) ∈ l)
    (hg : P.globalNamed name = some g) (hty : (P.globals[g]?).map (·.type) = some t) (ht : P.underlying t = some (.array n e)) (he : P.underlying e = some (.int k)) (hce : P.cellsOf e = 1) (hct : P.cellsOf t = n) : Lib.TabIs P W name k zs := by
  rw [MakeChecks.laidMetH_plain _ _ _ hp] at h
  obtain ⟨g', t', cs, fuel, p, hg', ht', hvar, hd⟩ := Lib.laidMet.reads h hm
  obtain rfl := Option.some.inj (hg.symm.trans hg')
  obtain rfl := Option.some.inj (hty.symm.trans ht')
  unfold Lib.TabIs
  rw [hvar, ← Lib.cells_of_tab ht he hce hct hd]
theorem arg_weights {H : Type} {P : Program} {ts : List TypeId} {ds : List (DataW H)} (hsz : (DataW.weightsEach P ts ds).all (· ≤ reachBytes) = true) {j : Nat} {t : TypeId} {d : DataW H} (ht : ts[j]? = some t) (hd : ds[j]? = some d) : ∀ b ∈ d.weights P t, b ≤ reachBytes := by
  intro b hb
  simpa using List.all_eq_true.1 hsz _ (DataW.weights_mem_each ht hd b hb)
end Go.Proofs.YtdjcechogbcdnaaDoor.Open
namespace Go.Proofs.YtdjcechogbcdnaaDoor.XL
open Go.RowKit Go.Proofs.YtdjcechogbcdnaaDoorW.PrintWords Go.Proofs.YtdjcechogbcdnaaDoor.Open
theorem cells_of_strs {H : Type} {enc : TypeId × Value → H} {P : Program} {w : World} {base : Nat} {sp : Nat → Bool} {held : Bool} {fuel : Nat} {t e : TypeId} {n : Nat} {cs : List Value} {zs : List (List UInt8)} {p : List MemPlace}
    (ht : P.underlying t = some (.array n e)) (he : P.underlying e = some .string) (hce : P.cellsOf e = 1) (hct : P.cellsOf t = n)
    (h : DataW.trod enc P w base sp held fuel t cs = some (.agg (zs.map fun z => .lit (.string z)), p)) : cs = zs.map fun z => Value.string ⟨z.toArray⟩ := by
  cases fuel with
  | zero => simp [DataW.trod] at h
  | succ fuel =>
    simp only [DataW.trod, ht, hce, hct, Nat.mul_one] at h
    split at h
    · rename_i hl
      obtain ⟨xs, hm, hx⟩ := Option.map_eq_some_iff.1 h
      have hxs : xs.map (·.1) = zs.map fun z => (DataW.lit (.string z) : DataW H) := by
        have := congrArg Prod.fst hx
        simpa using this
      have hxl : xs.length = n := by simpa using Lib.mapM_length hm
      have hzl : zs.length = n := by
        have := congrArg List.length hxs
        simp at this
        omega
      apply List.ext_getElem?
      intro i
      by_cases hi : i < n
      · obtain ⟨b, hb, hf⟩ := Lib.mapM_at hm i i (by simp [hi])
        obtain ⟨s, hc, hb2, _⟩ := DataW.trod_string he hf
        have h1 : cs[i]? = some (.string s) := by
          have := congrArg (·[0]?) hc
          simpa [List.getElem?_take, List.getElem?_drop] using this
        have h2 : (xs.map (·.1))[i]? = some (DataW.lit (.string s.data.toList) : DataW H) := by simp [hb, hb2]
        rw [hxs] at h2
        simp only [List.getElem?_map, Option.map_eq_some_iff, DataW.lit.injEq, Lit.string.injEq] at h2
        obtain ⟨z', hz', hz2⟩ := h2
        have e : (⟨z'.toArray⟩ : ByteArray) = s := by rw [hz2]
        simp [h1, hz', e]
      · rw [List.getElem?_eq_none (by omega), List.getElem?_eq_none (by simp; omega)]
    · cases h
theorem strs_of_reads {P : Program} {W : World} {l : List (String × DataW Unit)} {name : String} (zs : List (List UInt8)) {g : Nat} {t e : TypeId} {n : Nat} (hp : (l.all fun x => x.2.handleName?.isNone) = true) (h : laidMetH P l W) (hm : (name, .agg (zs.map fun z => .lit (.string z))) ∈ l)
    (hg : P.globalNamed name = some g) (hty : (P.globals[g]?).map (·.type) = some t) (ht : P.underlying t = some (.array n e)) (he : P.underlying e = some .string) (hce : P.cellsOf e = 1) (hct : P.cellsOf t = n) : W.var? P name = some (zs.map fun z => Value.string ⟨z.toArray⟩).toArray := by
  rw [MakeChecks.laidMetH_plain _ _ _ hp] at h
  obtain ⟨g', t', cs, fuel, p, hg', ht', hvar, hd⟩ := Lib.laidMet.reads h hm
  obtain rfl := Option.some.inj (hg.symm.trans hg')
  obtain rfl := Option.some.inj (hty.symm.trans ht')
  rw [hvar, ← cells_of_strs ht he hce hct hd]
theorem iface_of_reads {P : Program} {W : World} {l : List (String × DataW Unit)} {name nm : String} {d : DataW Unit} {g : Nat} {t : TypeId} {ms : Array (String × TypeId)} (hp : (l.all fun x => x.2.handleName?.isNone) = true) (h : laidMetH P l W) (hm : (name, .iface nm d) ∈ l)
    (hg : P.globalNamed name = some g) (hty : (P.globals[g]?).map (·.type) = some t) (ht : P.underlying t = some (.interface ms)) : ∃ tp p, W.var? P name = some #[.iface tp p] := by
  rw [MakeChecks.laidMetH_plain _ _ _ hp] at h
  obtain ⟨g', t', cs, fuel, p, hg', ht', hvar, hd⟩ := Lib.laidMet.reads h hm
  obtain rfl := Option.some.inj (hg.symm.trans hg')
  obtain rfl := Option.some.inj (hty.symm.trans ht')
  obtain ⟨f1, u, v, hcs, _, _⟩ := iface_of_trod ht hd
  refine ⟨u, v, ?_⟩
  rw [hvar]
  congr 1
  apply Array.toList_inj.1
  exact hcs
end Go.Proofs.YtdjcechogbcdnaaDoor.XL
namespace Go.Proofs.YtdjcechogbcdnaaDoor.lexScans
open Go.ChangeShapes Go.WideShapes Go.ChangeAt Go.RowKit
open Go.ChangeMaps (open_string shut_string)
open Go.Proofs.YtdjcechogbcdnaaDoorW.PrintWords Go.Proofs.YtdjcechogbcdnaaDoor.Open Go.Proofs.YtdjcechogbcdnaaDoor.XL
set_option linter.unusedVariables false
theorem door_met (os : Os) (args : Array Value) : laidMetH Tryd.prog Rows.lexScansRow.laid ((World.doorLaid Tryd.prog 400 os).forCall (fun _ _ => 0) ⟨#[], args, []⟩).memory :=
  laidMetH_of_parts3 (fuel := 8) (laidMet_of_run' 8 (by kernel_rfl) (by kernel_rfl)) (by kernel_rfl) (by kernel_rfl)
theorem tabs_of {W : World} (h : laidMetH Tryd.prog Rows.lexScansRow.laid W) : Tabs W :=
  ⟨tab_of_reads (by kernel_rfl) h (by exact .tail _ (.tail _ (.head _))) (g := 4) (by kernel_rfl) (by kernel_rfl) (n := 20) Tryd.underlying102 Tryd.underlying70 (by kernel_rfl) (by kernel_rfl), strs_of_reads signL (by kernel_rfl) h (by exact .tail _ (.tail _ (.tail _ (.tail _ (.tail _ (.head _)))))) (g := 0) (by kernel_rfl) (by kernel_rfl) (n := 27) Tryd.underlying51 Tryd.underlying9 (by kernel_rfl) (by kernel_rfl), iface_of_reads (by kernel_rfl) h (by exact .tail _ (.tail _ (.tail _ (.head _)))) (g := 3) (by kernel_rfl) (by kernel_rfl) Tryd.underlying46, iface_of_reads (by kernel_rfl) h (by exact .tail _ (.tail _ (.tail _ (.tail _ (.head _))))) (g := 2) (by kernel_rfl) (by kernel_rfl) Tryd.underlying46⟩
theorem own : ownKnob Tryd.prog.godebug = none := by kernel_rfl
theorem laidOut : laidOutB Tryd.prog = true := by kernel_rfl
set_option maxRecDepth 100000 in
theorem lifted (os : Os) (started : os.Started) (H : Type) (enc : TypeId × Value → H) :
    ReturnsInHanded {} Tryd.checked os 3 .any (fun w args => (Rows.lexScansSpec.pre enc Tryd.prog Tryd.f3 [] false w args ∧ laidMetH Tryd.prog Rows.lexScansRow.laid w) ∧ sizedMet enc Tryd.prog Tryd.f3 (OpenSpec.ofChange Rows.lexScansSpec) false w args) (Rows.lexScansSpec.post enc Tryd.prog Tryd.f3 false true false false) := by
  refine returnsInHanded_of_change_and (C := Tryd.checked) (X := fun w _ => laidMetH Tryd.prog Rows.lexScansRow.laid w) (fun _ _ _ hh h => h.of_heap hh) own started (by kernel_rfl) Tryd.func3
    (ChangeSpec.witness_shaped (enc := enc) (C := Tryd.checked) (os := os) (X := fun w _ => laidMetH Tryd.prog Rows.lexScansRow.laid w) false (World.doorLaid Tryd.prog 400 os) #[.string ByteArray.empty] 8 rfl (World.shaped_of_RefB (by kernel_rfl) (by kernel_rfl)) (by kernel_rfl) (by kernel_rfl) (by kernel_rfl) (door_met os _)) ?_
  intro W base args ds gs before hval0 hW hcnd hsz0 hL _
  have hsz : (DataW.weightsEach Tryd.prog (Tryd.f3.params.toList ++ Rows.lexScansSpec.plain.varTypes Tryd.prog) (ds ++ gs)).all (· ≤ reachBytes) = true := hsz0
  have hval : ∀ (j : Nat) t v, Tryd.f3.params[j]? = some t → args[j]? = some v → Value.okWide Tryd.prog W .any base t v := hval0
  have hW' := hW
  obtain ⟨p, q, hA0, hV, rfl, hfz, hnd⟩ := hW
  have hA : DataW.TrodAll enc Tryd.prog W 0 (fun _ => true) true Tryd.f3.params.toList args.toList ds p := hA0
  rw [Tryd.params3] at hA hval hsz
  obtain ⟨v0, vs0, d0, ds0, p0, q0, hargs, rfl, rfl, h0, r0⟩ := trodAll_cons hA
  obtain ⟨rfl, rfl, rfl⟩ := trodAll_nil r0
  obtain rfl : args = #[v0] := by cases args; simp_all
  obtain ⟨rfl, rfl⟩ := trodVars_none hV
  have k0 := h0
  have lt0 : ∀ x ∈ p0, x.block < W.heap.size := by obtain ⟨m, hm⟩ := k0; exact DataW.trod_lt m _ _ _ hm
  have wt0 := Open.arg_weights hsz (j := 0) (t := 9) (d := d0) rfl rfl
  obtain ⟨a0, rfl, rfl, rfl, y0⟩ := open_string Tryd.underlying9 (hval 0 9 v0 rfl rfl) h0
  have w0 : a0.size ≤ 140737488351232 := by
    have z := wt0 _ (List.mem_singleton.2 rfl)
    simpa [reachBytes] using z
  clear hA0 hval0 hsz0 hsz
  have hT := tabs_of hL
  refine (scans_walk a0 W w0 hT).mono fun e W' ⟨he, bel⟩ => ?_
  subst he
  exact ⟨_, rfl, _, _, _, [], _, [], hW', trodAll_mk1 (shut_bool Tryd.underlying4 _), (trodAll_cons_mk (Below.trod laidOut (by kernel_rfl) (of_decide_eq_true (by kernel_rfl)) k0 bel lt0) trodAll_mk0), rfl, bel.frame _, fun h => by cases h⟩
theorem over : Rows.lexScansRow.holds Tryd.pinned (OpenSpec.ofChange Rows.lexScansSpec) :=
  OpenClaim.holds_of_wide 3 Tryd.f3 rfl rfl rfl rfl rfl rfl rfl ⟨rfl, rfl, rfl, rfl, rfl⟩ rfl rfl rfl rfl rfl (by kernel_rfl) Tryd.func3 (by kernel_rfl)
    (of_decide_eq_true (by kernel_rfl)) (by unfold Func.isWrapper; first | (rw [if_pos (by decide +kernel)]; kernel_rfl) | (rw [if_neg (by decide +kernel)]; exact ⟨rfl, rfl⟩))
    (fun os started H enc _ => lifted os started H enc)
theorem proved : Rows.LexScansSaid := over
theorem card_proved : Rows.LexScansCardSaid :=
  Claim7.holds_tied_plain_at .later [] [.data, .data, .data, .sentinel, .sentinel, .data] true (true, "014ed79bff4ff950644538d023eda56c2caef8150cd3955ee4071edaba877566") true proved (fun _ h => by cases h) (by kernel_rfl) (fun _ h => by cases h) lexScans_row_tie rfl ⟨rfl, rfl⟩ (by kernel_rfl) rfl
    (fun f fn hf hfn => by
      obtain rfl : f = 3 := Option.some.inj ((show Tryd.prog.funcNamed "switchyard/switchyardlaw07.LexScans" = some 3 by kernel_rfl).symm.trans hf) |>.symm
      obtain rfl : fn = Tryd.f3 := (Option.some.inj (Tryd.func3.symm.trans hfn)).symm
      exact ⟨by kernel_rfl, fun j t ht => by
        rw [Tryd.params3] at ht
        have hm : t ∈ [9] := by simpa using Array.mem_of_getElem? ht
        have hall : ([9].all fun u => !Tryd.prog.wantsStandIn u) = true := by kernel_rfl
        exact (show Tryd.prog.wantsStandIn t = false by simpa using List.all_eq_true.1 hall t hm)⟩)
    (by kernel_rfl)
end Go.Proofs.YtdjcechogbcdnaaDoor.lexScans
namespace Go.Proofs.YtdjcechogbcdnaaDoor
/-- The card, under a short name, for the claim. -/
theorem lexScans_holds : Rows.LexScansCardSaid := lexScans.card_proved
end Go.Proofs.YtdjcechogbcdnaaDoor
