/- switchyard/switchyardlaw19.DeadOwn: for every input the law answers true, and its arguments read as before; the listed library tables are tied to the program's text by the given tie. Conditions: none but the card's own. -/
import Derived.Test.YtknbebjphjpgpaaDoorKOwn1
import Derived.Test.YtknbebjphjpgpaaDoorRows
import Derived.Test.YtknbebjphjpgpaaDoorCards
import Derived.Test.YtknbebjphjpgpaaDoorTie
import Derived.WalkKit
import Derived.ProofKit
import Derived.OpenShut
import Derived.ShutString
import Derived.ChangeOld
import Derived.Below
import Derived.SizedLaws
import Derived.LaidMore
import Derived.Stop.Joined
import Derived.SevenTiedAt
namespace Go.Proofs.YtknbebjphjpgpaaDoor.XD
open Go.RowKit Go.Proofs.YtknbebjphjpgpaaDoorW.PrintWords Go.Proofs.YtknbebjphjpgpaaDoorW.PrintLast Go.Proofs.YtknbebjphjpgpaaDoorW.PrintMore
attribute [local go_sem] max2_int min2_int max_two min_two max_three min_three max_four min_four   -- for this text's walks alone
set_option linter.unusedVariables false
set_option linter.unusedSimpArgs false
def dead_Put.f (k : Nat) (l0 : List (S27)) (a1 : Int) (a2_0 : Int) (a2_1 : ByteArray) (l2_2 : List (S37)) (l2_3 : List (S37)) (a3 : Int) (a4 : Int) : Option ((List (S27)) × Int) := (dead_Word.f a3).bind fun t118 => (if t118.toList = ([] : List UInt8) then (some (([] : List (S27)), 2)) else ((dead_at.f l0 a1).bind fun t119 => (if t119 ≥ 0 then (some (([] : List (S27)), 21)) else (if (l0.length : Int) ≥ a4 then (some (([] : List (S27)), 42)) else ((dead_but.f k l0).bind fun t120 => ((dead_twin.f k a1 a2_0 a2_1 l2_2 l2_3 a3).bind fun bt123 => (if t120.length < 1599289640401 then (some ((t120 ++ [(⟨bt123.1, (⟨bt123.2.1, bt123.2.2.1, bt123.2.2.2.1, bt123.2.2.2.2.1⟩ : S25), bt123.2.2.2.2.2⟩ : S27)]), 0)) else (none))))))))
def dead_Put.T7 : Bool × List (List Nat × List Nat) := (true, [([], []), ([0], [0]), ([], []), ([], []), ([], []), ([2, 3, 4], [2, 3, 4]), ([5, 1], [5]), ([6], [6]), ([1, 7, 6], [1, 7]), ([8, 8, 0, 1, 2, 3, 4, 5, 6, 7, 8], [8]), ([9, 0, 1, 2, 3, 4, 5, 6, 7, 8, 9], [])])
def dead_Put.B7 : List Nat := [0, 1, 0, 0, 0, 28, 63, 127, 255, 511, 1023]
theorem dead_Put.tab7 : rtab .any (opsOf Tryd.f9 7) = dead_Put.T7 := by kernel_rfl
theorem dead_Put.bits7 : waitsOk dead_Put.T7.2 dead_Put.B7 = true := by kernel_rfl
set_option maxHeartbeats 600000 in
set_option maxRecDepth 100000 in
theorem dead_Put.calls (k : Nat) (A0 : Option Addr) (c0 : Nat) (l0 : List (S27)) (a1 : Int) (a2_0 : Int) (a2_1 : ByteArray) (A2_2 : Option Addr) (c2_2 : Nat) (l2_2 : List (S37)) (A2_3 : Option Addr) (c2_3 : Nat) (l2_3 : List (S37)) (a3 : Int) (a4 : Int) (r1 : List (S27)) (r2 : Int) (w : World) (hr0 : Kd.C k27 w A0 l0.length l0) (hc0 : l0.length ≤ c0) (hr2_2 : Kd.C k37 w A2_2 l2_2.length l2_2) (hc2_2 : l2_2.length ≤ c2_2) (hr2_3 : Kd.C k37 w A2_3 l2_3.length l2_3) (hc2_3 : l2_3.length ≤ c2_3) (h : dead_Put.f k l0 a1 a2_0 a2_1 l2_2 l2_3 a3 a4 = some (r1, r2)) (hT : Tabs w) :
    Calls Tryd.prog 9 #[.slice A0 l0.length c0, .int .i64 a1, .agg #[.int .i64 a2_0, .string a2_1, .slice A2_2 l2_2.length c2_2, .slice A2_3 l2_3.length c2_3], .int .i64 a3, .int .i64 a4] w fun e w' => ∃ v0_ : Value, e = .returned (.tuple #[v0_, .int .i64 r2]) ∧ Kd.R k27 27 w' w.heap.size (fun _ => True) v0_ r1 ∧ Below w.heap.size w w' := by
  have HT := Aside0.mk hT
  clear hT
  have hu25 := Tryd.underlying25
  have hu27 := Tryd.underlying27
  have HR0 := Aside0.mk hr0
  have HC0 := Aside0.mk hc0
  clear hr0 hc0
  have HR2_2 := Aside0.mk hr2_2
  have HC2_2 := Aside0.mk hc2_2
  clear hr2_2 hc2_2
  have HR2_3 := Aside0.mk hr2_3
  have HC2_3 := Aside0.mk hc2_3
  clear hr2_3 hc2_3
  have HB := Aside0.mk (Below.refl w.heap.size w)
  have H : ((dead_Word.f a3).bind fun t118 => (if t118.toList = ([] : List UInt8) then (some (([] : List (S27)), 2)) else ((dead_at.f l0 a1).bind fun t119 => (if t119 ≥ 0 then (some (([] : List (S27)), 21)) else (if (l0.length : Int) ≥ a4 then (some (([] : List (S27)), 42)) else ((dead_but.f k l0).bind fun t120 => ((dead_twin.f k a1 a2_0 a2_1 l2_2 l2_3 a3).bind fun bt123 => (if t120.length < 1599289640401 then (some ((t120 ++ [(⟨bt123.1, (⟨bt123.2.1, bt123.2.2.1, bt123.2.2.2.1, bt123.2.2.2.2.1⟩ : S25), bt123.2.2.2.2.2⟩ : S27)]), 0)) else (none))))))))) = some (r1, r2) := h
  clear h
  replace H := Option.bind_eq_some_iff.mp H
  obtain ⟨t118, A60, H⟩ := H
  replace H : (if t118.toList = ([] : List UInt8) then (some (([] : List (S27)), 2)) else ((dead_at.f l0 a1).bind fun t119 => (if t119 ≥ 0 then (some (([] : List (S27)), 21)) else (if (l0.length : Int) ≥ a4 then (some (([] : List (S27)), 42)) else ((dead_but.f k l0).bind fun t120 => ((dead_twin.f k a1 a2_0 a2_1 l2_2 l2_3 a3).bind fun bt123 => (if t120.length < 1599289640401 then (some ((t120 ++ [(⟨bt123.1, (⟨bt123.2.1, bt123.2.2.1, bt123.2.2.2.1, bt123.2.2.2.2.1⟩ : S25), bt123.2.2.2.2.2⟩ : S27)]), 0)) else (none)))))))) = some (r1, r2) := H
  have A6 := Aside0.mk A60
  clear A60
  by_cases c7 : t118.toList = ([] : List UInt8)
  · rw [if_pos c7] at H
    have c7b0 : (t118.toList == ([] : List UInt8)) = true := beq_iff_eq.mpr c7
    have c7b1 : (t118.toList != ([] : List UInt8)) = false := bne_eq_false_iff_eq.mpr c7
    clear c7
    simp only [Option.some.injEq, Prod.mk.injEq] at H
    obtain ⟨rfl, rfl⟩ := H
    go_enter Tryd.func9, Tryd.ntmps9
    go_wp2_with (first | ((with_reducible refine gate_dst (N := 7) rfl ?_); refine box_event ?hg (N := 7) ?hd (cs := #[.int .i64 a2_0, .string a2_1, .slice A2_2 l2_2.length c2_2, .slice A2_3 l2_3.length c2_3]) (t := 25) ?hr ?_; (case hd => rfl); (case hg => rfl); (case hr => first | (go_simp; done) | (go_simp; rfl)); intro gb117 hg w8 hbox hb; have n0_ := Aside0.mk (below_step (by repeat (first | (with_reducible first | exact HB.out | apply below_alloc | apply pw_below_drewN | apply below_drew1) | exact HB.out)) hb); have n1_ := Aside0.mk (hbox); have n2_ := Aside0.mk ((by rw [hg]; exact (below_size (by repeat (first | (with_reducible first | exact HB.out | apply below_alloc | apply pw_below_drewN | apply below_drew1) | exact HB.out))) : w.heap.size ≤ gb117)); have n3_ := Aside0.mk ((by rw [hg]; exact (below_size (by repeat (first | (with_reducible first | exact HB.out | apply below_alloc | apply pw_below_drewN | apply below_drew1) | exact HB.out))) : w.heap.size ≤ gb117)); clear HB; have HB := n0_; have BK117 := n1_; have GW117 := n2_; have GE117 := n3_; clear n0_ n1_ n2_ n3_; clear hb hbox hg) | ((with_reducible refine gate_callee (f := 12) rfl ?_); refine goesL_ (some 14) rfl rfl Tryd.func12 (by kernel_rfl) rfl #[.int .i64 a3] rfl (by (try simp only [List.map_toArray, List.map_cons, List.map_nil]); first | done | rfl | (simp only [List.length_drop, List.length_take]; rfl)) ?_; (with_reducible refine (dead_Word.calls a3 t118 _ A6.out (Tabs.below HT.out (by repeat (first | (with_reducible first | exact HB.out | apply below_alloc | apply pw_below_drewN | apply below_drew1 | refine below_set ?_ GE117.out) | exact HB.out)))).mono ?_); rintro e w9 ⟨rfl, hb⟩; refine ⟨_, rfl, ?_⟩; have n0_ := Aside0.mk (blk_below (g := gb117) (o := .cells #[.int .i64 a2_0, .string a2_1, .slice A2_2 l2_2.length c2_2, .slice A2_3 l2_3.length c2_3] 25 (0, 0)) (by (with_reducible repeat (first | refine blk_drewN ?_ _ | refine blk_drew ?_ | refine blk_alloc ?_ _)); exact BK117.out) hb); have n1_ := Aside0.mk (below_step (by repeat (first | (with_reducible first | exact HB.out | apply below_alloc | apply pw_below_drewN | apply below_drew1 | refine below_set ?_ GE117.out) | exact HB.out)) hb); clear BK117; clear HB; have BK117 := n0_; have HB := n1_; clear n0_ n1_; (try clear hb); (try clear hb2); (try clear hk); (try clear hi)))
    go_ret2
    exact ⟨_, by first | rfl | (simp [errW_none, errW_some] <;> rfl) | (simp [*, errW_none, errW_some] <;> rfl), by first | exact Kd.R_nil _ _ _ _ _ | exact Kd.N_nil _ _ _ _ _ | exact Kd.V_nil _ _ _ _ _ | exact Kd.Q_nil _ _ _ _ _ | exact Kd.S_nil _ _ _ _ _, by repeat (first | (with_reducible first | exact HB.out | apply below_alloc | apply pw_below_drewN | apply below_drew1 | refine below_set ?_ GE117.out) | exact HB.out)⟩
  · rw [if_neg c7] at H
    have c7b0 : (t118.toList == ([] : List UInt8)) = false := beq_eq_false_iff_ne.mpr c7
    have c7b1 : (t118.toList != ([] : List UInt8)) = true := bne_iff_ne.mpr c7
    replace H := Option.bind_eq_some_iff.mp H
    obtain ⟨t119, A100, H⟩ := H
    replace H : (if t119 ≥ 0 then (some (([] : List (S27)), 21)) else (if (l0.length : Int) ≥ a4 then (some (([] : List (S27)), 42)) else ((dead_but.f k l0).bind fun t120 => ((dead_twin.f k a1 a2_0 a2_1 l2_2 l2_3 a3).bind fun bt123 => (if t120.length < 1599289640401 then (some ((t120 ++ [(⟨bt123.1, (⟨bt123.2.1, bt123.2.2.1, bt123.2.2.2.1, bt123.2.2.2.2.1⟩ : S25), bt123.2.2.2.2.2⟩ : S27)]), 0)) else (none)))))) = some (r1, r2) := H
    have A10 := Aside0.mk A100
    clear A100
    by_cases c11 : t119 ≥ 0
    · rw [if_pos c11] at H
      have c11b0 : decide (0 ≤ t119) = true := decide_eq_true c11
      clear c11
      simp only [Option.some.injEq, Prod.mk.injEq] at H
      obtain ⟨rfl, rfl⟩ := H
      go_enter Tryd.func9, Tryd.ntmps9
      go_wp2_with (first | ((with_reducible refine gate_dst (N := 7) rfl ?_); refine box_event ?hg (N := 7) ?hd (cs := #[.int .i64 a2_0, .string a2_1, .slice A2_2 l2_2.length c2_2, .slice A2_3 l2_3.length c2_3]) (t := 25) ?hr ?_; (case hd => rfl); (case hg => rfl); (case hr => first | (go_simp; done) | (go_simp; rfl)); intro gb117 hg w12 hbox hb; have n0_ := Aside0.mk (below_step (by repeat (first | (with_reducible first | exact HB.out | apply below_alloc | apply pw_below_drewN | apply below_drew1) | exact HB.out)) hb); have n1_ := Aside0.mk (hbox); have n2_ := Aside0.mk ((by rw [hg]; exact (below_size (by repeat (first | (with_reducible first | exact HB.out | apply below_alloc | apply pw_below_drewN | apply below_drew1) | exact HB.out))) : w.heap.size ≤ gb117)); have n3_ := Aside0.mk ((by rw [hg]; exact (below_size (by repeat (first | (with_reducible first | exact HB.out | apply below_alloc | apply pw_below_drewN | apply below_drew1) | exact HB.out))) : w.heap.size ≤ gb117)); clear HB; have HB := n0_; have BK117 := n1_; have GW117 := n2_; have GE117 := n3_; clear n0_ n1_ n2_ n3_; clear hb hbox hg) | ((with_reducible refine gate_callee (f := 12) rfl ?_); refine goesL_ (some 14) rfl rfl Tryd.func12 (by kernel_rfl) rfl #[.int .i64 a3] rfl (by (try simp only [List.map_toArray, List.map_cons, List.map_nil]); first | done | rfl | (simp only [List.length_drop, List.length_take]; rfl)) ?_; (with_reducible refine (dead_Word.calls a3 t118 _ A6.out (Tabs.below HT.out (by repeat (first | (with_reducible first | exact HB.out | apply below_alloc | apply pw_below_drewN | apply below_drew1 | refine below_set ?_ GE117.out) | exact HB.out)))).mono ?_); rintro e w13 ⟨rfl, hb⟩; refine ⟨_, rfl, ?_⟩; have n0_ := Aside0.mk (blk_below (g := gb117) (o := .cells #[.int .i64 a2_0, .string a2_1, .slice A2_2 l2_2.length c2_2, .slice A2_3 l2_3.length c2_3] 25 (0, 0)) (by (with_reducible repeat (first | refine blk_drewN ?_ _ | refine blk_drew ?_ | refine blk_alloc ?_ _)); exact BK117.out) hb); have n1_ := Aside0.mk (below_step (by repeat (first | (with_reducible first | exact HB.out | apply below_alloc | apply pw_below_drewN | apply below_drew1 | refine below_set ?_ GE117.out) | exact HB.out)) hb); clear BK117; clear HB; have BK117 := n0_; have HB := n1_; clear n0_ n1_; (try clear hb); (try clear hb2); (try clear hk); (try clear hi)) | ((with_reducible refine gate_callee (f := 20) rfl ?_); refine goesL_ (some 19) rfl rfl Tryd.func20 (by kernel_rfl) rfl #[.slice A0 l0.length c0, .int .i64 a1] rfl (by (try simp only [List.map_toArray, List.map_cons, List.map_nil]); first | done | rfl | (simp only [List.length_drop, List.length_take]; rfl)) ?_; (with_reducible refine (dead_at.calls _ _ l0 a1 t119 _ ?side1 ?side2 A10.out).mono ?_); (case side1 => repeat (first | exact (Kd.C_below HR0.out HB.out) | (with_reducible refine Kd.C_alloc ?_ _) | (with_reducible refine Kd.C_drewN ?_ _) | (with_reducible refine Kd.C_drew ?_))); (case side2 => exact HC0.out); rintro e w14 ⟨rfl, hb⟩; refine ⟨_, rfl, ?_⟩; have n0_ := Aside0.mk (blk_below (g := gb117) (o := .cells #[.int .i64 a2_0, .string a2_1, .slice A2_2 l2_2.length c2_2, .slice A2_3 l2_3.length c2_3] 25 (0, 0)) (by (with_reducible repeat (first | refine blk_drewN ?_ _ | refine blk_drew ?_ | refine blk_alloc ?_ _)); exact BK117.out) hb); have n1_ := Aside0.mk (below_step (by repeat (first | (with_reducible first | exact HB.out | apply below_alloc | apply pw_below_drewN | apply below_drew1 | refine below_set ?_ GE117.out) | exact HB.out)) hb); clear BK117; clear HB; have BK117 := n0_; have HB := n1_; clear n0_ n1_; (try clear hb); (try clear hb2); (try clear hk); (try clear hi)))
      go_ret2
      exact ⟨_, by first | rfl | (simp [errW_none, errW_some] <;> rfl) | (simp [*, errW_none, errW_some] <;> rfl), by first | exact Kd.R_nil _ _ _ _ _ | exact Kd.N_nil _ _ _ _ _ | exact Kd.V_nil _ _ _ _ _ | exact Kd.Q_nil _ _ _ _ _ | exact Kd.S_nil _ _ _ _ _, by repeat (first | (with_reducible first | exact HB.out | apply below_alloc | apply pw_below_drewN | apply below_drew1 | refine below_set ?_ GE117.out) | exact HB.out)⟩
    · rw [if_neg c11] at H
      have c11b0 : decide (0 ≤ t119) = false := decide_eq_false c11
      clear c11
      by_cases c15 : (l0.length : Int) ≥ a4
      · rw [if_pos c15] at H
        have c15b0 : decide (a4 ≤ (l0.length : Int)) = true := decide_eq_true c15
        clear c15
        simp only [Option.some.injEq, Prod.mk.injEq] at H
        obtain ⟨rfl, rfl⟩ := H
        go_enter Tryd.func9, Tryd.ntmps9
        go_wp2_with (first | ((with_reducible refine gate_dst (N := 7) rfl ?_); refine box_event ?hg (N := 7) ?hd (cs := #[.int .i64 a2_0, .string a2_1, .slice A2_2 l2_2.length c2_2, .slice A2_3 l2_3.length c2_3]) (t := 25) ?hr ?_; (case hd => rfl); (case hg => rfl); (case hr => first | (go_simp; done) | (go_simp; rfl)); intro gb117 hg w16 hbox hb; have n0_ := Aside0.mk (below_step (by repeat (first | (with_reducible first | exact HB.out | apply below_alloc | apply pw_below_drewN | apply below_drew1) | exact HB.out)) hb); have n1_ := Aside0.mk (hbox); have n2_ := Aside0.mk ((by rw [hg]; exact (below_size (by repeat (first | (with_reducible first | exact HB.out | apply below_alloc | apply pw_below_drewN | apply below_drew1) | exact HB.out))) : w.heap.size ≤ gb117)); have n3_ := Aside0.mk ((by rw [hg]; exact (below_size (by repeat (first | (with_reducible first | exact HB.out | apply below_alloc | apply pw_below_drewN | apply below_drew1) | exact HB.out))) : w.heap.size ≤ gb117)); clear HB; have HB := n0_; have BK117 := n1_; have GW117 := n2_; have GE117 := n3_; clear n0_ n1_ n2_ n3_; clear hb hbox hg) | ((with_reducible refine gate_callee (f := 12) rfl ?_); refine goesL_ (some 14) rfl rfl Tryd.func12 (by kernel_rfl) rfl #[.int .i64 a3] rfl (by (try simp only [List.map_toArray, List.map_cons, List.map_nil]); first | done | rfl | (simp only [List.length_drop, List.length_take]; rfl)) ?_; (with_reducible refine (dead_Word.calls a3 t118 _ A6.out (Tabs.below HT.out (by repeat (first | (with_reducible first | exact HB.out | apply below_alloc | apply pw_below_drewN | apply below_drew1 | refine below_set ?_ GE117.out) | exact HB.out)))).mono ?_); rintro e w17 ⟨rfl, hb⟩; refine ⟨_, rfl, ?_⟩; have n0_ := Aside0.mk (blk_below (g := gb117) (o := .cells #[.int .i64 a2_0, .string a2_1, .slice A2_2 l2_2.length c2_2, .slice A2_3 l2_3.length c2_3] 25 (0, 0)) (by (with_reducible repeat (first | refine blk_drewN ?_ _ | refine blk_drew ?_ | refine blk_alloc ?_ _)); exact BK117.out) hb); have n1_ := Aside0.mk (below_step (by repeat (first | (with_reducible first | exact HB.out | apply below_alloc | apply pw_below_drewN | apply below_drew1 | refine below_set ?_ GE117.out) | exact HB.out)) hb); clear BK117; clear HB; have BK117 := n0_; have HB := n1_; clear n0_ n1_; (try clear hb); (try clear hb2); (try clear hk); (try clear hi)) | ((with_reducible refine gate_callee (f := 20) rfl ?_); refine goesL_ (some 19) rfl rfl Tryd.func20 (by kernel_rfl) rfl #[.slice A0 l0.length c0, .int .i64 a1] rfl (by (try simp only [List.map_toArray, List.map_cons, List.map_nil]); first | done | rfl | (simp only [List.length_drop, List.length_take]; rfl)) ?_; (with_reducible refine (dead_at.calls _ _ l0 a1 t119 _ ?side1 ?side2 A10.out).mono ?_); (case side1 => repeat (first | exact (Kd.C_below HR0.out HB.out) | (with_reducible refine Kd.C_alloc ?_ _) | (with_reducible refine Kd.C_drewN ?_ _) | (with_reducible refine Kd.C_drew ?_))); (case side2 => exact HC0.out); rintro e w18 ⟨rfl, hb⟩; refine ⟨_, rfl, ?_⟩; have n0_ := Aside0.mk (blk_below (g := gb117) (o := .cells #[.int .i64 a2_0, .string a2_1, .slice A2_2 l2_2.length c2_2, .slice A2_3 l2_3.length c2_3] 25 (0, 0)) (by (with_reducible repeat (first | refine blk_drewN ?_ _ | refine blk_drew ?_ | refine blk_alloc ?_ _)); exact BK117.out) hb); have n1_ := Aside0.mk (below_step (by repeat (first | (with_reducible first | exact HB.out | apply below_alloc | apply pw_below_drewN | apply below_drew1 | refine below_set ?_ GE117.out) | exact HB.out)) hb); clear BK117; clear HB; have BK117 := n0_; have HB := n1_; clear n0_ n1_; (try clear hb); (try clear hb2); (try clear hk); (try clear hi)))
        go_ret2
        exact ⟨_, by first | rfl | (simp [errW_none, errW_some] <;> rfl) | (simp [*, errW_none, errW_some] <;> rfl), by first | exact Kd.R_nil _ _ _ _ _ | exact Kd.N_nil _ _ _ _ _ | exact Kd.V_nil _ _ _ _ _ | exact Kd.Q_nil _ _ _ _ _ | exact Kd.S_nil _ _ _ _ _, by repeat (first | (with_reducible first | exact HB.out | apply below_alloc | apply pw_below_drewN | apply below_drew1 | refine below_set ?_ GE117.out) | exact HB.out)⟩
      · rw [if_neg c15] at H
        have c15b0 : decide (a4 ≤ (l0.length : Int)) = false := decide_eq_false c15
        clear c15
        replace H := Option.bind_eq_some_iff.mp H
        obtain ⟨t120, A190, H⟩ := H
        replace H : ((dead_twin.f k a1 a2_0 a2_1 l2_2 l2_3 a3).bind fun bt123 => (if t120.length < 1599289640401 then (some ((t120 ++ [(⟨bt123.1, (⟨bt123.2.1, bt123.2.2.1, bt123.2.2.2.1, bt123.2.2.2.2.1⟩ : S25), bt123.2.2.2.2.2⟩ : S27)]), 0)) else (none))) = some (r1, r2) := H
        have A19 := Aside0.mk A190
        clear A190
        replace H := Option.bind_eq_some_iff.mp H
        obtain ⟨⟨t123, t124, t125, t126, t129, t132⟩, A200, H⟩ := H
        replace H : (if t120.length < 1599289640401 then (some ((t120 ++ [(⟨t123, (⟨t124, t125, t126, t129⟩ : S25), t132⟩ : S27)]), 0)) else (none)) = some (r1, r2) := H
        have A20 := Aside0.mk A200
        clear A200
        by_cases c21 : t120.length < 1599289640401
        · rw [if_pos c21] at H
          have LMc21 := Aside0.mk c21
          clear c21
          obtain ⟨y133, hy133⟩ : ∃ y_ : List (S27), y_ = (t120 ++ [(⟨t123, (⟨t124, t125, t126, t129⟩ : S25), t132⟩ : S27)]) := ⟨_, rfl⟩
          replace H : (some (y133, 0)) = some (r1, r2) := by first | (rw [hy133]; with_reducible exact H) | (have H2_ := (Option.bind_some _ _).symm.trans H; rw [hy133]; with_reducible exact H2_) | (have H2_ := (Option.bind_some _ _).symm.trans H; with_reducible exact H2_) | with_reducible exact H | (rw [hy133]; exact H) | exact H
          have Ny133 := Aside0.mk hy133
          clear hy133
          simp only [Option.some.injEq, Prod.mk.injEq] at H
          obtain ⟨rfl, rfl⟩ := H
          go_enter Tryd.func9, Tryd.ntmps9
          try go_wp2_with (first | ((with_reducible refine gate_dst (N := 7) rfl ?_); refine box_event ?hg (N := 7) ?hd (cs := #[.int .i64 a2_0, .string a2_1, .slice A2_2 l2_2.length c2_2, .slice A2_3 l2_3.length c2_3]) (t := 25) ?hr ?_; (case hd => rfl); (case hg => rfl); (case hr => first | (go_simp; done) | (go_simp; rfl)); intro gb117 hg w22 hbox hb; have n0_ := Aside0.mk (below_step (by repeat (first | (with_reducible first | exact HB.out | apply below_alloc | apply pw_below_drewN | apply below_drew1) | exact HB.out)) hb); have n1_ := Aside0.mk (hbox); have n2_ := Aside0.mk ((by rw [hg]; exact (below_size (by repeat (first | (with_reducible first | exact HB.out | apply below_alloc | apply pw_below_drewN | apply below_drew1) | exact HB.out))) : w.heap.size ≤ gb117)); have n3_ := Aside0.mk ((by rw [hg]; exact (below_size (by repeat (first | (with_reducible first | exact HB.out | apply below_alloc | apply pw_below_drewN | apply below_drew1) | exact HB.out))) : w.heap.size ≤ gb117)); clear HB; have HB := n0_; have BK117 := n1_; have GW117 := n2_; have GE117 := n3_; clear n0_ n1_ n2_ n3_; clear hb hbox hg) | ((with_reducible refine gate_callee (f := 12) rfl ?_); refine goesL_ (some 14) rfl rfl Tryd.func12 (by kernel_rfl) rfl #[.int .i64 a3] rfl (by (try simp only [List.map_toArray, List.map_cons, List.map_nil]); first | done | rfl | (simp only [List.length_drop, List.length_take]; rfl)) ?_; (with_reducible refine (dead_Word.calls a3 t118 _ A6.out (Tabs.below HT.out (by repeat (first | (with_reducible first | exact HB.out | apply below_alloc | apply pw_below_drewN | apply below_drew1 | refine below_set ?_ GE117.out) | exact HB.out)))).mono ?_); rintro e w23 ⟨rfl, hb⟩; refine ⟨_, rfl, ?_⟩; have n0_ := Aside0.mk (blk_below (g := gb117) (o := .cells #[.int .i64 a2_0, .string a2_1, .slice A2_2 l2_2.length c2_2, .slice A2_3 l2_3.length c2_3] 25 (0, 0)) (by (with_reducible repeat (first | refine blk_drewN ?_ _ | refine blk_drew ?_ | refine blk_alloc ?_ _)); exact BK117.out) hb); have n1_ := Aside0.mk (below_step (by repeat (first | (with_reducible first | exact HB.out | apply below_alloc | apply pw_below_drewN | apply below_drew1 | refine below_set ?_ GE117.out) | exact HB.out)) hb); clear BK117; clear HB; have BK117 := n0_; have HB := n1_; clear n0_ n1_; (try clear hb); (try clear hb2); (try clear hk); (try clear hi)) | ((with_reducible refine gate_callee (f := 20) rfl ?_); refine goesL_ (some 19) rfl rfl Tryd.func20 (by kernel_rfl) rfl #[.slice A0 l0.length c0, .int .i64 a1] rfl (by (try simp only [List.map_toArray, List.map_cons, List.map_nil]); first | done | rfl | (simp only [List.length_drop, List.length_take]; rfl)) ?_; (with_reducible refine (dead_at.calls _ _ l0 a1 t119 _ ?side1 ?side2 A10.out).mono ?_); (case side1 => repeat (first | exact (Kd.C_below HR0.out HB.out) | (with_reducible refine Kd.C_alloc ?_ _) | (with_reducible refine Kd.C_drewN ?_ _) | (with_reducible refine Kd.C_drew ?_))); (case side2 => exact HC0.out); rintro e w24 ⟨rfl, hb⟩; refine ⟨_, rfl, ?_⟩; have n0_ := Aside0.mk (blk_below (g := gb117) (o := .cells #[.int .i64 a2_0, .string a2_1, .slice A2_2 l2_2.length c2_2, .slice A2_3 l2_3.length c2_3] 25 (0, 0)) (by (with_reducible repeat (first | refine blk_drewN ?_ _ | refine blk_drew ?_ | refine blk_alloc ?_ _)); exact BK117.out) hb); have n1_ := Aside0.mk (below_step (by repeat (first | (with_reducible first | exact HB.out | apply below_alloc | apply pw_below_drewN | apply below_drew1 | refine below_set ?_ GE117.out) | exact HB.out)) hb); clear BK117; clear HB; have BK117 := n0_; have HB := n1_; clear n0_ n1_; (try clear hb); (try clear hb2); (try clear hk); (try clear hi)))
          have n0_ := Aside0.mk (blk_drew BK117.out)
          have n1_ := Aside0.mk (below_drew1 HB.out)
          clear BK117
          clear HB
          have BK117 := n0_
          have HB := n1_
          clear n0_ n1_
          refine start_ (n := 11) (S := fun w' => w'.cell? ⟨gb117, 0, none⟩ = some (.int .i64 a2_0) ∧ w'.cell? ⟨gb117, 1, none⟩ = some (.string a2_1) ∧ w'.cell? ⟨gb117, 2, none⟩ = some (.slice A2_2 l2_2.length c2_2) ∧ w'.cell? ⟨gb117, 3, none⟩ = some (.slice A2_3 l2_3.length c2_3)) (ds := []) #[false, false, false, false, false, false, false, false, false, false, false] (by kernel_rfl) rfl rfl ⟨(blk_cell BK117.out 0).trans rfl, (blk_cell BK117.out 1).trans rfl, (blk_cell BK117.out 2).trans rfl, (blk_cell BK117.out 3).trans rfl⟩ (fun hHeld => ?_); refine with_tabW dead_Put.tab7 dead_Put.bits7 (fun HT_ HW_ => ?_)
          generalize w24.drew = w25 at BK117 HB hHeld ⊢
          refine pure_ (i := 0) (N := some 26) (v := ?_) (a' := ?_) #[true, false, false, false, false, false, false, false, false, false, false] rfl rfl (any_of HT_.out (by kernel_rfl)) (fun _ _ _ h => h) (Or.inl ⟨by rfl, ?_⟩) ?_ ?_
          rotate_left
          · intro w'
            go_simp
            with_reducible rfl
          rotate_left
          · simp only [Act.put, List.setIfInBounds_toArray, List.set_cons_zero, List.set_cons_succ, i64_w, i32_w]
            rfl
          refine pure_ (i := 2) (N := some 28) (v := ?_) (a' := ?_) #[true, false, true, false, false, false, false, false, false, false, false] rfl rfl (any_of HT_.out (by kernel_rfl)) (fun _ _ _ h => h) (Or.inl ⟨by rfl, ?_⟩) ?_ ?_
          rotate_left
          · intro w'
            go_simp
            with_reducible rfl
          rotate_left
          · simp only [Act.put, List.setIfInBounds_toArray, List.set_cons_zero, List.set_cons_succ, i64_w, i32_w]
            rfl
          refine pure_ (i := 4) (N := some 30) (v := ?_) (a' := ?_) #[true, false, true, false, true, false, false, false, false, false, false] rfl rfl (any_of HT_.out (by kernel_rfl)) (fun _ _ _ h => h) (Or.inl ⟨by rfl, ?_⟩) ?_ ?_
          rotate_left
          · intro w'
            go_simp
            with_reducible rfl
          rotate_left
          · simp only [Act.put, List.setIfInBounds_toArray, List.set_cons_zero, List.set_cons_succ, i64_w, i32_w]
            rfl
          refine take_ (i := 3) (N := some 29) (v := ?_) (a' := ?_) #[true, false, true, true, true, false, false, false, false, false, false] rfl rfl (take_ofW HT_.out HW_.out (by kernel_rfl)) (fun _ _ _ h => h) (Or.inl ⟨by rfl, ?_⟩) hHeld ?_ ?_
          rotate_left
          · rintro w' ⟨s0, s1, s2, s3⟩
            go_simp
            with_reducible rfl
          rotate_left
          · simp only [Act.put, List.setIfInBounds_toArray, List.set_cons_zero, List.set_cons_succ, i64_w, i32_w]
            rfl
          refine pure_ (i := 5) (N := some 31) (v := ?_) (a' := ?_) #[true, false, true, true, true, true, false, false, false, false, false] rfl rfl (any_of HT_.out (by kernel_rfl)) (fun _ _ _ h => h) (Or.inl ⟨by rfl, ?_⟩) ?_ ?_
          rotate_left
          · intro w'
            go_simp
            with_reducible rfl
          rotate_left
          · simp only [Act.put, List.setIfInBounds_toArray, List.set_cons_zero, List.set_cons_succ, i64_w, i32_w]
            rfl
          refine one_ (i := 1) (N := some 27) #[true, true, true, true, true, true, false, false, false, false, false] rfl rfl (one_of HT_.out (by kernel_rfl)) (by decide) (fun K hK => ?_)
          refine goes_ Tryd.func21 (by kernel_rfl) rfl #[.slice A0 l0.length c0, .func (.func 22) #[] #[]] (by rfl) rfl rfl (by (try simp only [List.map_toArray, List.map_cons, List.map_nil]); first | done | rfl | (simp only [List.length_drop, List.length_take]; rfl)) ?_
          with_reducible refine (dead_but.calls k _ _ l0 t120 _ ?side1 ?side2 A19.out).mono ?_
          (case side1 => repeat (first | exact (Kd.C_below HR0.out HB.out) | (with_reducible refine Kd.C_alloc ?_ _) | (with_reducible refine Kd.C_drewN ?_ _) | (with_reducible refine Kd.C_drew ?_)))
          (case side2 => exact HC0.out)
          rintro e w26 ⟨v121, rfl, ho0, hb⟩
          refine ⟨_, rfl, ?_⟩
          have n0_ := Aside0.mk (Kd.R_lower ho0 (below_size (by repeat (first | (with_reducible first | exact HB.out | apply below_alloc | apply pw_below_drewN | apply below_drew1 | refine below_set ?_ GE117.out) | exact HB.out))))
          have n1_ := Aside0.mk (blk_below (g := gb117) (o := .cells #[.int .i64 a2_0, .string a2_1, .slice A2_2 l2_2.length c2_2, .slice A2_3 l2_3.length c2_3] 25 (0, 0)) (by (with_reducible repeat (first | refine blk_drewN ?_ _ | refine blk_drew ?_ | refine blk_alloc ?_ _)); exact BK117.out) hb)
          have n2_ := Aside0.mk (below_step (by repeat (first | (with_reducible first | exact HB.out | apply below_alloc | apply pw_below_drewN | apply below_drew1 | refine below_set ?_ GE117.out) | exact HB.out)) hb)
          clear BK117
          clear HB
          have HO122 := n0_
          have BK117 := n1_
          have HB := n2_
          clear n0_ n1_ n2_
          (try clear hb)
          (try clear hb2)
          (try clear hk)
          (try clear hi)
          (try clear ho0)
          refine hK.out _ _ ⟨(blk_cell BK117.out 0).trans rfl, (blk_cell BK117.out 1).trans rfl, (blk_cell BK117.out 2).trans rfl, (blk_cell BK117.out 3).trans rfl⟩ (fun hHeld => ?_)
          clear hK K
          refine norm_ (a' := ?_) ?_ ?_
          rotate_left
          · show Act.put _ (some 27) _ = _
            simp only [Act.put, List.setIfInBounds_toArray, List.set_cons_zero, List.set_cons_succ, i64_w, i32_w]
            rfl
          refine one_ (i := 6) (N := some 32) #[true, true, true, true, true, true, true, false, false, false, false] rfl rfl (one_of HT_.out (by kernel_rfl)) (by decide) (fun K hK => ?_)
          refine goes_ Tryd.func23 (by kernel_rfl) rfl #[.agg #[.int .i64 a1, .int .i64 a2_0, .string a2_1, .slice A2_2 l2_2.length c2_2, .slice A2_3 l2_3.length c2_3, .int .i64 a3]] (by rfl) rfl rfl (by (try simp only [List.map_toArray, List.map_cons, List.map_nil]); first | done | rfl | (simp only [List.length_drop, List.length_take]; rfl)) ?_
          with_reducible refine (dead_twin.calls k a1 a2_0 a2_1 _ _ l2_2 _ _ l2_3 a3 t123 t124 t125 t126 t129 t132 _ ?side1 ?side2 ?side3 ?side4 A20.out).mono ?_
          (case side1 => repeat (first | exact (Kd.C_below HR2_2.out HB.out) | (with_reducible refine Kd.C_alloc ?_ _) | (with_reducible refine Kd.C_drewN ?_ _) | (with_reducible refine Kd.C_drew ?_)))
          (case side2 => exact HC2_2.out)
          (case side3 => repeat (first | exact (Kd.C_below HR2_3.out HB.out) | (with_reducible refine Kd.C_alloc ?_ _) | (with_reducible refine Kd.C_drewN ?_ _) | (with_reducible refine Kd.C_drew ?_)))
          (case side4 => exact HC2_3.out)
          rintro e w27 ⟨v127, v130, rfl, ho0, ho1, hb⟩
          refine ⟨_, rfl, ?_⟩
          have n0_ := Aside0.mk (Kd.R_mono (Kd.R_told (Kd.R_told (Kd.R_old (by (with_reducible repeat (first | apply Kd.R_alloc | apply Kd.R_drewN | apply Kd.R_drew)); exact HO122.out) hb) (Kd.S_base ho0)) (Kd.S_base ho1)) (fun _ h_ => h_.1))
          have n1_ := Aside0.mk (Kd.S_lower ho0 (below_size (by repeat (first | (with_reducible first | exact HB.out | apply below_alloc | apply pw_below_drewN | apply below_drew1 | refine below_set ?_ GE117.out) | exact HB.out))))
          have n2_ := Aside0.mk (Kd.S_lower ho1 (below_size (by repeat (first | (with_reducible first | exact HB.out | apply below_alloc | apply pw_below_drewN | apply below_drew1 | refine below_set ?_ GE117.out) | exact HB.out))))
          have n3_ := Aside0.mk (blk_below (g := gb117) (o := .cells #[.int .i64 a2_0, .string a2_1, .slice A2_2 l2_2.length c2_2, .slice A2_3 l2_3.length c2_3] 25 (0, 0)) (by (with_reducible repeat (first | refine blk_drewN ?_ _ | refine blk_drew ?_ | refine blk_alloc ?_ _)); exact BK117.out) hb)
          have n4_ := Aside0.mk (below_step (by repeat (first | (with_reducible first | exact HB.out | apply below_alloc | apply pw_below_drewN | apply below_drew1 | refine below_set ?_ GE117.out) | exact HB.out)) hb)
          clear HO122
          clear BK117
          clear HB
          have HO122 := n0_
          have HO128 := n1_
          have HO131 := n2_
          have BK117 := n3_
          have HB := n4_
          clear n0_ n1_ n2_ n3_ n4_
          (try clear hb)
          (try clear hb2)
          (try clear hk)
          (try clear hi)
          (try clear ho0)
          (try clear ho1)
          obtain ⟨Ao29, co29, eo29⟩ := Kd.S_slice HO128.out
          (first | subst eo29 | (injection eo29 with f1_ f2_ f3_; have f4_ := f1_.symm; have f5_ := f3_.symm; clear f1_ f2_ f3_; subst f4_; subst f5_))
          obtain ⟨Ao30, co30, eo30⟩ := Kd.S_slice HO131.out
          (first | subst eo30 | (injection eo30 with f1_ f2_ f3_; have f4_ := f1_.symm; have f5_ := f3_.symm; clear f1_ f2_ f3_; subst f4_; subst f5_))
          refine hK.out _ _ ⟨(blk_cell BK117.out 0).trans rfl, (blk_cell BK117.out 1).trans rfl, (blk_cell BK117.out 2).trans rfl, (blk_cell BK117.out 3).trans rfl⟩ (fun hHeld => ?_)
          clear hK K
          refine norm_ (a' := ?_) ?_ ?_
          rotate_left
          · show Act.put _ (some 32) _ = _
            simp only [Act.put, List.setIfInBounds_toArray, List.set_cons_zero, List.set_cons_succ, i64_w, i32_w]
            rfl
          refine one_ (i := 7) (N := some 33) #[true, true, true, true, true, true, true, true, false, false, false] rfl rfl (one_of HT_.out (by kernel_rfl)) (by decide) (fun K hK => ?_)
          refine value_ (w1 := ?_) (v := ?_) (by rfl) rfl ?_ ?_
          rotate_left 2
          · go_simp
            constructor
            · rfl
            · rfl
          refine hK.out _ _ ⟨(blk_cell (blk_alloc BK117.out _) 0).trans rfl, (blk_cell (blk_alloc BK117.out _) 1).trans rfl, (blk_cell (blk_alloc BK117.out _) 2).trans rfl, (blk_cell (blk_alloc BK117.out _) 3).trans rfl⟩ (fun hHeld => ?_)
          clear hK K
          refine norm_ (a' := ?_) ?_ ?_
          rotate_left
          · show Act.put _ (some 33) _ = _
            simp only [Act.put, List.setIfInBounds_toArray, List.set_cons_zero, List.set_cons_succ, i64_w, i32_w]
            rfl
          refine one_ (i := 8) (N := some 34) #[true, true, true, true, true, true, true, true, true, false, false] rfl rfl (one_of HT_.out (by kernel_rfl)) (by decide) (fun K hK => ?_)
          refine Kd.R_append_step k27 (w0 := w) w.heap.size (by rfl) (.tmp 27) (.tmp 33) 22 27 (.agg #[(.int .i64 0), (.int .i64 0), (.string ⟨#[]⟩), (.slice none 0 0), (.slice none 0 0), (.int .i64 0)]) 88 rfl Tryd.underlying22 info27 rfl (by decide) (by omega) v121 t120 (⟨t123, (⟨t124, t125, t126, t129⟩ : S25), t132⟩ : S27) [.int .i64 t123, .int .i64 t124, .string t125, .slice Ao29 t126.length co29, .slice Ao30 t129.length co30, .int .i64 t132] (fun _ => True) (fun k_ => ((fun _ => True)) k_ ∧ some k_ ≠ (v121 : Value).ownBlock) rfl rfl ?aP (fun _ hk => hk) ?aF ?aO ?aB ?aS ?aL ?_
          (case aP => exact k27_mkM _ _ _ (⟨t123, (⟨t124, t125, t126, t129⟩ : S25), t132⟩ : S27) (Kd.R_mono (Kd.R_apart' ((Kd.S_R HO128.out)) (Kd.R_typed HO122.out) (by decide)) (fun k_ hk => ⟨trivial, hk.2⟩)) (Kd.R_mono (Kd.R_apart' ((Kd.S_R HO131.out)) (Kd.R_typed HO122.out) (by decide)) (fun k_ hk => ⟨trivial, hk.2⟩)))
          (case aB => exact (by repeat (first | (with_reducible first | exact HB.out | apply below_alloc | apply pw_below_drewN | apply below_drew1 | refine below_set ?_ GE117.out) | exact HB.out)))
          (case aF => exact (fun _ _ => trivial))
          (case aO => exact (by (with_reducible repeat (first | apply Kd.R_alloc | apply Kd.R_drewN | apply Kd.R_drew)); exact Kd.R_mono HO122.out (fun _ hk => trivial)))
          (case aS => exact (below_size (by repeat (first | (with_reducible first | exact HB.out | apply below_alloc | apply pw_below_drewN | apply below_drew1 | refine below_set ?_ GE117.out) | exact HB.out))))
          (case aL => have := LMc21.out; omega)
          intro v134 w28 ho hb hg hat
          rw [← Ny133.out] at ho
          have n0_ := Aside0.mk (blk_grown (g := gb117) (o := .cells #[.int .i64 a2_0, .string a2_1, .slice A2_2 l2_2.length c2_2, .slice A2_3 l2_3.length c2_3] 25 (0, 0)) (by (with_reducible repeat (first | refine blk_drewN ?_ _ | refine blk_drew ?_ | refine blk_alloc ?_ _)); exact BK117.out) hg (Kd.R_ne HO122.out BK117.out (by decide)))
          have n1_ := Aside0.mk (hb)
          have n2_ := Aside0.mk (ho)
          clear BK117
          clear HB
          clear HO122
          clear HO128
          clear HO131
          have BK117 := n0_
          have HB := n1_
          have HO135 := n2_
          clear n0_ n1_ n2_
          clear ho hb hg hat
          refine hK.out _ _ ⟨(blk_cell BK117.out 0).trans rfl, (blk_cell BK117.out 1).trans rfl, (blk_cell BK117.out 2).trans rfl, (blk_cell BK117.out 3).trans rfl⟩ (fun hHeld => ?_)
          clear hK K
          refine norm_ (a' := ?_) ?_ ?_
          rotate_left
          · show Act.put _ (some 34) _ = _
            simp only [Act.put, List.setIfInBounds_toArray, List.set_cons_zero, List.set_cons_succ, i64_w, i32_w]
            rfl
          refine pure_ (i := 9) (N := some 10) (v := ?_) (a' := ?_) #[true, true, true, true, true, true, true, true, true, true, false] rfl rfl (any_of HT_.out (by kernel_rfl)) (fun _ _ _ h => h) (Or.inl ⟨by rfl, ?_⟩) ?_ ?_
          rotate_left
          · intro w'
            go_simp
            with_reducible rfl
          rotate_left
          · simp only [Act.put, List.setIfInBounds_toArray, List.set_cons_zero, List.set_cons_succ, i64_w, i32_w]
            rfl
          refine pure_ (i := 10) (N := some 11) (v := ?_) (a' := ?_) #[true, true, true, true, true, true, true, true, true, true, true] rfl rfl (any_of HT_.out (by kernel_rfl)) (fun _ _ _ h => h) (Or.inl ⟨by rfl, ?_⟩) ?_ ?_
          rotate_left
          · intro w'
            go_simp
            with_reducible rfl
          rotate_left
          · simp only [Act.put, List.setIfInBounds_toArray, List.set_cons_zero, List.set_cons_succ, i64_w, i32_w]
            rfl
          refine done_ (done_of HT_.out (by kernel_rfl)) ?_
          try go_wp2
          go_ret2
          exact ⟨_, by first | rfl | (simp [errW_none, errW_some] <;> rfl) | (simp [*, errW_none, errW_some] <;> rfl), by (with_reducible repeat (first | apply Kd.R_alloc | apply Kd.R_drewN | apply Kd.R_drew)); exact HO135.out, by repeat (first | (with_reducible first | exact HB.out | apply below_alloc | apply pw_below_drewN | apply below_drew1 | refine below_set ?_ GE117.out) | exact HB.out)⟩
        · rw [if_neg c21] at H
          exact absurd H (by simp)
def dead_Find.f (k : Nat) (l0 : List (S27)) (a1 : Int) : Option (Int × Int × ByteArray × (List (S37)) × (List (S37)) × Int × Bool) := (dead_at.f l0 a1).bind fun t137 => (if t137 < 0 then (some (0, 0, (⟨#[]⟩ : ByteArray), ([] : List (S37)), ([] : List (S37)), 0, false)) else (if 0 ≤ t137 then (if t137 < (l0.length : Int) then ((dead_twin.f k ((rd_T27 l0 t137).f0) ((rd_T27 l0 t137).f1.f0) ((rd_T27 l0 t137).f1.f1) ((rd_T27 l0 t137).f1.f2) ((rd_T27 l0 t137).f1.f3) ((rd_T27 l0 t137).f2)).bind fun bt139 => (some (bt139.1, bt139.2.1, bt139.2.2.1, bt139.2.2.2.1, bt139.2.2.2.2.1, bt139.2.2.2.2.2, true))) else (none)) else (none)))
set_option maxHeartbeats 600000 in
set_option maxRecDepth 100000 in
theorem dead_Find.calls (k : Nat) (A0 : Option Addr) (c0 : Nat) (l0 : List (S27)) (a1 : Int) (r1 : Int) (r2 : Int) (r3 : ByteArray) (r4 : List (S37)) (r5 : List (S37)) (r6 : Int) (r7 : Bool) (w : World) (hr0 : Kd.C k27 w A0 l0.length l0) (hc0 : l0.length ≤ c0) (h : dead_Find.f k l0 a1 = some (r1, r2, r3, r4, r5, r6, r7)) :
    Calls Tryd.prog 10 #[.slice A0 l0.length c0, .int .i64 a1] w fun e w' => ∃ v3_ v4_ : Value, e = .returned (.tuple #[.agg #[.int .i64 r1, .int .i64 r2, .string r3, v3_, v4_, .int .i64 r6], .bool r7]) ∧ Kd.S k37 37 w' w.heap.size (fun k_ => some k_ ≠ (v4_ : Value).ownBlock) v3_ r4 ∧ Kd.S k37 37 w' w.heap.size (fun k_ => some k_ ≠ (v3_ : Value).ownBlock) v4_ r5 ∧ Below w.heap.size w w' := by
  have hu27 := Tryd.underlying27
  have HR0 := Aside0.mk hr0
  have HC0 := Aside0.mk hc0
  clear hr0 hc0
  have HB := Aside0.mk (Below.refl w.heap.size w)
  have H : ((dead_at.f l0 a1).bind fun t137 => (if t137 < 0 then (some (0, 0, (⟨#[]⟩ : ByteArray), ([] : List (S37)), ([] : List (S37)), 0, false)) else (if 0 ≤ t137 then (if t137 < (l0.length : Int) then ((dead_twin.f k ((rd_T27 l0 t137).f0) ((rd_T27 l0 t137).f1.f0) ((rd_T27 l0 t137).f1.f1) ((rd_T27 l0 t137).f1.f2) ((rd_T27 l0 t137).f1.f3) ((rd_T27 l0 t137).f2)).bind fun bt139 => (some (bt139.1, bt139.2.1, bt139.2.2.1, bt139.2.2.2.1, bt139.2.2.2.2.1, bt139.2.2.2.2.2, true))) else (none)) else (none)))) = some (r1, r2, r3, r4, r5, r6, r7) := h
  clear h
  replace H := Option.bind_eq_some_iff.mp H
  obtain ⟨t137, A30, H⟩ := H
  replace H : (if t137 < 0 then (some (0, 0, (⟨#[]⟩ : ByteArray), ([] : List (S37)), ([] : List (S37)), 0, false)) else (if 0 ≤ t137 then (if t137 < (l0.length : Int) then ((dead_twin.f k ((rd_T27 l0 t137).f0) ((rd_T27 l0 t137).f1.f0) ((rd_T27 l0 t137).f1.f1) ((rd_T27 l0 t137).f1.f2) ((rd_T27 l0 t137).f1.f3) ((rd_T27 l0 t137).f2)).bind fun bt139 => (some (bt139.1, bt139.2.1, bt139.2.2.1, bt139.2.2.2.1, bt139.2.2.2.2.1, bt139.2.2.2.2.2, true))) else (none)) else (none))) = some (r1, r2, r3, r4, r5, r6, r7) := H
  have A3 := Aside0.mk A30
  clear A30
  by_cases c4 : t137 < 0
  · rw [if_pos c4] at H
    have c4b0 : decide (t137 < 0) = true := decide_eq_true c4
    clear c4
    simp only [Option.some.injEq, Prod.mk.injEq] at H
    obtain ⟨rfl, rfl, rfl, rfl, rfl, rfl, rfl⟩ := H
    go_enter Tryd.func10, Tryd.ntmps10
    go_wp2_with (first | ((with_reducible refine gate_dst (N := 4) rfl ?_); refine box_event ?hg (N := 4) ?hd (cs := #[.int .i64 0, .int .i64 0, .string (⟨#[]⟩ : ByteArray), .slice none 0 0, .slice none 0 0, .int .i64 0]) (t := 27) ?hr ?_; (case hd => rfl); (case hg => rfl); (case hr => first | (go_simp; done) | (go_simp; rfl)); intro gb136 hg w5 hbox hb; have n0_ := Aside0.mk (below_step (by repeat (first | (with_reducible first | exact HB.out | apply below_alloc | apply pw_below_drewN | apply below_drew1) | exact HB.out)) hb); have n1_ := Aside0.mk (hbox); have n2_ := Aside0.mk ((by rw [hg]; exact (below_size (by repeat (first | (with_reducible first | exact HB.out | apply below_alloc | apply pw_below_drewN | apply below_drew1) | exact HB.out))) : w.heap.size ≤ gb136)); have n3_ := Aside0.mk ((by rw [hg]; exact (below_size (by repeat (first | (with_reducible first | exact HB.out | apply below_alloc | apply pw_below_drewN | apply below_drew1) | exact HB.out))) : w.heap.size ≤ gb136)); clear HB; have HB := n0_; have BK136 := n1_; have GW136 := n2_; have GE136 := n3_; clear n0_ n1_ n2_ n3_; clear hb hbox hg) | ((with_reducible refine gate_callee (f := 20) rfl ?_); refine goesL_ (some 9) rfl rfl Tryd.func20 (by kernel_rfl) rfl #[.slice A0 l0.length c0, .int .i64 a1] rfl (by (try simp only [List.map_toArray, List.map_cons, List.map_nil]); first | done | rfl | (simp only [List.length_drop, List.length_take]; rfl)) ?_; (with_reducible refine (dead_at.calls _ _ l0 a1 t137 _ ?side1 ?side2 A3.out).mono ?_); (case side1 => repeat (first | exact (Kd.C_below HR0.out HB.out) | (with_reducible refine Kd.C_alloc ?_ _) | (with_reducible refine Kd.C_drewN ?_ _) | (with_reducible refine Kd.C_drew ?_))); (case side2 => exact HC0.out); rintro e w6 ⟨rfl, hb⟩; refine ⟨_, rfl, ?_⟩; have n0_ := Aside0.mk (blk_below (g := gb136) (o := .cells #[.int .i64 0, .int .i64 0, .string (⟨#[]⟩ : ByteArray), .slice none 0 0, .slice none 0 0, .int .i64 0] 27 (0, 0)) (by (with_reducible repeat (first | refine blk_drewN ?_ _ | refine blk_drew ?_ | refine blk_alloc ?_ _)); exact BK136.out) hb); have n1_ := Aside0.mk (below_step (by repeat (first | (with_reducible first | exact HB.out | apply below_alloc | apply pw_below_drewN | apply below_drew1 | refine below_set ?_ GE136.out) | exact HB.out)) hb); clear BK136; clear HB; have BK136 := n0_; have HB := n1_; clear n0_ n1_; (try clear hb); (try clear hb2); (try clear hk); (try clear hi); have hcz7_0 : w6.cell? ⟨gb136, 0, none⟩ = some (.int .i64 0) := (blk_cell BK136.out 0).trans rfl; have hcz7_1 : w6.cell? ⟨gb136, 1, none⟩ = some (.int .i64 0) := (blk_cell BK136.out 1).trans rfl; have hcz7_2 : w6.cell? ⟨gb136, 2, none⟩ = some (.string (⟨#[]⟩ : ByteArray)) := (blk_cell BK136.out 2).trans rfl; have hcz7_3 : w6.cell? ⟨gb136, 3, none⟩ = some (.slice none 0 0) := (blk_cell BK136.out 3).trans rfl; have hcz7_4 : w6.cell? ⟨gb136, 4, none⟩ = some (.slice none 0 0) := (blk_cell BK136.out 4).trans rfl; have hcz7_5 : w6.cell? ⟨gb136, 5, none⟩ = some (.int .i64 0) := (blk_cell BK136.out 5).trans rfl; have hfz7_0 := blk_frozen BK136.out 0; have hfz7_1 := blk_frozen BK136.out 1; have hfz7_2 := blk_frozen BK136.out 2; have hfz7_3 := blk_frozen BK136.out 3; have hfz7_4 := blk_frozen BK136.out 4; have hfz7_5 := blk_frozen BK136.out 5))
    refine bodyPost_ret (results_ct rfl _ _ gb136 27 #[.int .i64 0, .int .i64 0, .string (⟨#[]⟩ : ByteArray), .slice none 0 0, .slice none 0 0, .int .i64 0] (0, 0) _ rfl (by (with_reducible repeat (first | refine blk_drewN ?_ _ | refine blk_drew ?_ | refine blk_alloc ?_ _)); refine blk_put (cs := #[.int .i64 0, .int .i64 0, .string (⟨#[]⟩ : ByteArray), .slice none 0 0, .slice none 0 0, .int .i64 0]) ?_ 5 _ rfl; (with_reducible repeat (first | refine blk_drewN ?_ _ | refine blk_drew ?_ | refine blk_alloc ?_ _)); refine blk_put (cs := #[.int .i64 0, .int .i64 0, .string (⟨#[]⟩ : ByteArray), .slice none 0 0, .slice none 0 0, .int .i64 0]) ?_ 4 _ rfl; (with_reducible repeat (first | refine blk_drewN ?_ _ | refine blk_drew ?_ | refine blk_alloc ?_ _)); refine blk_put (cs := #[.int .i64 0, .int .i64 0, .string (⟨#[]⟩ : ByteArray), .slice none 0 0, .slice none 0 0, .int .i64 0]) ?_ 3 _ rfl; (with_reducible repeat (first | refine blk_drewN ?_ _ | refine blk_drew ?_ | refine blk_alloc ?_ _)); refine blk_put (cs := #[.int .i64 0, .int .i64 0, .string (⟨#[]⟩ : ByteArray), .slice none 0 0, .slice none 0 0, .int .i64 0]) ?_ 2 _ rfl; (with_reducible repeat (first | refine blk_drewN ?_ _ | refine blk_drew ?_ | refine blk_alloc ?_ _)); refine blk_put (cs := #[.int .i64 0, .int .i64 0, .string (⟨#[]⟩ : ByteArray), .slice none 0 0, .slice none 0 0, .int .i64 0]) ?_ 1 _ rfl; (with_reducible repeat (first | refine blk_drewN ?_ _ | refine blk_drew ?_ | refine blk_alloc ?_ _)); refine blk_put (cs := #[.int .i64 0, .int .i64 0, .string (⟨#[]⟩ : ByteArray), .slice none 0 0, .slice none 0 0, .int .i64 0]) ?_ 0 _ rfl; (with_reducible repeat (first | refine blk_drewN ?_ _ | refine blk_drew ?_ | refine blk_alloc ?_ _)); exact BK136.out) Tryd.underlying27 rfl (by kernel_rfl)) rfl ?_
    exact ⟨_, _, by first | rfl | (simp [errW_none, errW_some] <;> rfl) | (simp [*, errW_none, errW_some] <;> rfl), by first | exact Kd.S_nil _ _ _ _ _ | exact Kd.N_nil _ _ _ _ _ | exact Kd.V_nil _ _ _ _ _ | exact Kd.Q_nil _ _ _ _ _ | exact Kd.R_nil _ _ _ _ _, by first | exact Kd.S_nil _ _ _ _ _ | exact Kd.N_nil _ _ _ _ _ | exact Kd.V_nil _ _ _ _ _ | exact Kd.Q_nil _ _ _ _ _ | exact Kd.R_nil _ _ _ _ _, by repeat (first | (with_reducible first | exact HB.out | apply below_alloc | apply pw_below_drewN | apply below_drew1 | refine below_set ?_ GE136.out) | exact HB.out)⟩
  · rw [if_neg c4] at H
    have c4b0 : decide (t137 < 0) = false := decide_eq_false c4
    clear c4
    by_cases c8 : 0 ≤ t137
    · rw [if_pos c8] at H
      have c8b0 : decide (0 ≤ t137) = true := decide_eq_true c8
      clear c8
      by_cases c9 : t137 < (l0.length : Int)
      · rw [if_pos c9] at H
        have c9b0 : decide (t137 < (l0.length : Int)) = true := decide_eq_true c9
        clear c9
        replace H := Option.bind_eq_some_iff.mp H
        obtain ⟨⟨t139, t140, t141, t142, t145, t148⟩, A100, H⟩ := H
        replace H : (some (t139, t140, t141, t142, t145, t148, true)) = some (r1, r2, r3, r4, r5, r6, r7) := H
        have A10 := Aside0.mk A100
        clear A100
        simp only [Option.some.injEq, Prod.mk.injEq] at H
        obtain ⟨rfl, rfl, rfl, rfl, rfl, rfl, rfl⟩ := H
        go_enter Tryd.func10, Tryd.ntmps10
        go_wp2_with (first | ((with_reducible refine gate_dst (N := 4) rfl ?_); refine box_event ?hg (N := 4) ?hd (cs := #[.int .i64 0, .int .i64 0, .string (⟨#[]⟩ : ByteArray), .slice none 0 0, .slice none 0 0, .int .i64 0]) (t := 27) ?hr ?_; (case hd => rfl); (case hg => rfl); (case hr => first | (go_simp; done) | (go_simp; rfl)); intro gb136 hg w11 hbox hb; have n0_ := Aside0.mk (below_step (by repeat (first | (with_reducible first | exact HB.out | apply below_alloc | apply pw_below_drewN | apply below_drew1) | exact HB.out)) hb); have n1_ := Aside0.mk (hbox); have n2_ := Aside0.mk ((by rw [hg]; exact (below_size (by repeat (first | (with_reducible first | exact HB.out | apply below_alloc | apply pw_below_drewN | apply below_drew1) | exact HB.out))) : w.heap.size ≤ gb136)); have n3_ := Aside0.mk ((by rw [hg]; exact (below_size (by repeat (first | (with_reducible first | exact HB.out | apply below_alloc | apply pw_below_drewN | apply below_drew1) | exact HB.out))) : w.heap.size ≤ gb136)); clear HB; have HB := n0_; have BK136 := n1_; have GW136 := n2_; have GE136 := n3_; clear n0_ n1_ n2_ n3_; clear hb hbox hg) | ((with_reducible refine gate_callee (f := 20) rfl ?_); refine goesL_ (some 9) rfl rfl Tryd.func20 (by kernel_rfl) rfl #[.slice A0 l0.length c0, .int .i64 a1] rfl (by (try simp only [List.map_toArray, List.map_cons, List.map_nil]); first | done | rfl | (simp only [List.length_drop, List.length_take]; rfl)) ?_; (with_reducible refine (dead_at.calls _ _ l0 a1 t137 _ ?side1 ?side2 A3.out).mono ?_); (case side1 => repeat (first | exact (Kd.C_below HR0.out HB.out) | (with_reducible refine Kd.C_alloc ?_ _) | (with_reducible refine Kd.C_drewN ?_ _) | (with_reducible refine Kd.C_drew ?_))); (case side2 => exact HC0.out); rintro e w12 ⟨rfl, hb⟩; refine ⟨_, rfl, ?_⟩; have n0_ := Aside0.mk (blk_below (g := gb136) (o := .cells #[.int .i64 0, .int .i64 0, .string (⟨#[]⟩ : ByteArray), .slice none 0 0, .slice none 0 0, .int .i64 0] 27 (0, 0)) (by (with_reducible repeat (first | refine blk_drewN ?_ _ | refine blk_drew ?_ | refine blk_alloc ?_ _)); exact BK136.out) hb); have n1_ := Aside0.mk (below_step (by repeat (first | (with_reducible first | exact HB.out | apply below_alloc | apply pw_below_drewN | apply below_drew1 | refine below_set ?_ GE136.out) | exact HB.out)) hb); clear BK136; clear HB; have BK136 := n0_; have HB := n1_; clear n0_ n1_; (try clear hb); (try clear hb2); (try clear hk); (try clear hi); have p138 : 0 ≤ (t137 : Int) := of_decide_eq_true (by first | (with_reducible assumption) | assumption); have q138 : t137 < (l0.length : Int) := of_decide_eq_true (by first | (with_reducible assumption) | assumption); obtain ⟨ad138, A138_3, c138_3, A138_4, c138_4, e138, hx138_0, hx138_1, hx138_2, hx138_3, hx138_4, hx138_5, hl138_3, hi138_3, hl138_4, hi138_4⟩ := at_T27 HR0.out t137 p138 q138; cases e138; replace hx138_0 := (HB.out.cell (World.block_lt_of_cell? w _ hx138_0)).trans hx138_0; replace hx138_1 := (HB.out.cell (World.block_lt_of_cell? w _ hx138_1)).trans hx138_1; replace hx138_2 := (HB.out.cell (World.block_lt_of_cell? w _ hx138_2)).trans hx138_2; replace hx138_3 := (HB.out.cell (World.block_lt_of_cell? w _ hx138_3)).trans hx138_3; replace hx138_4 := (HB.out.cell (World.block_lt_of_cell? w _ hx138_4)).trans hx138_4; replace hx138_5 := (HB.out.cell (World.block_lt_of_cell? w _ hx138_5)).trans hx138_5; have HR138_3 := Aside0.mk hi138_3; have HC138_3 := Aside0.mk hl138_3; clear hi138_3 hl138_3; have HR138_4 := Aside0.mk hi138_4; have HC138_4 := Aside0.mk hl138_4; clear hi138_4 hl138_4; replace p138 := eq_true p138; replace q138 := eq_true q138) | ((with_reducible refine gate_callee (f := 23) rfl ?_); refine goesL_ (some 17) rfl rfl Tryd.func23 (by kernel_rfl) rfl #[.agg #[.int .i64 ((rd_T27 l0 t137).f0), .int .i64 ((rd_T27 l0 t137).f1.f0), .string ((rd_T27 l0 t137).f1.f1), .slice A138_3 ((rd_T27 l0 t137).f1.f2).length c138_3, .slice A138_4 ((rd_T27 l0 t137).f1.f3).length c138_4, .int .i64 ((rd_T27 l0 t137).f2)]] rfl (by (try simp only [List.map_toArray, List.map_cons, List.map_nil]); first | done | rfl | (simp only [List.length_drop, List.length_take]; rfl)) ?_; (with_reducible refine (dead_twin.calls k ((rd_T27 l0 t137).f0) ((rd_T27 l0 t137).f1.f0) ((rd_T27 l0 t137).f1.f1) _ _ ((rd_T27 l0 t137).f1.f2) _ _ ((rd_T27 l0 t137).f1.f3) ((rd_T27 l0 t137).f2) t139 t140 t141 t142 t145 t148 _ ?side1 ?side2 ?side3 ?side4 A10.out).mono ?_); (case side1 => repeat (first | exact (Kd.C_below HR138_3.out HB.out) | (with_reducible refine Kd.C_alloc ?_ _) | (with_reducible refine Kd.C_drewN ?_ _) | (with_reducible refine Kd.C_drew ?_))); (case side2 => exact HC138_3.out); (case side3 => repeat (first | exact (Kd.C_below HR138_4.out HB.out) | (with_reducible refine Kd.C_alloc ?_ _) | (with_reducible refine Kd.C_drewN ?_ _) | (with_reducible refine Kd.C_drew ?_))); (case side4 => exact HC138_4.out); rintro e w13 ⟨v143, v146, rfl, ho0, ho1, hb⟩; refine ⟨_, rfl, ?_⟩; have n0_ := Aside0.mk (Kd.S_lower ho0 (below_size (by repeat (first | (with_reducible first | exact HB.out | apply below_alloc | apply pw_below_drewN | apply below_drew1 | refine below_set ?_ GE136.out) | exact HB.out)))); have n1_ := Aside0.mk (Kd.S_lower ho1 (below_size (by repeat (first | (with_reducible first | exact HB.out | apply below_alloc | apply pw_below_drewN | apply below_drew1 | refine below_set ?_ GE136.out) | exact HB.out)))); have n2_ := Aside0.mk (blk_below (g := gb136) (o := .cells #[.int .i64 0, .int .i64 0, .string (⟨#[]⟩ : ByteArray), .slice none 0 0, .slice none 0 0, .int .i64 0] 27 (0, 0)) (by (with_reducible repeat (first | refine blk_drewN ?_ _ | refine blk_drew ?_ | refine blk_alloc ?_ _)); exact BK136.out) hb); have n3_ := Aside0.mk (below_step (by repeat (first | (with_reducible first | exact HB.out | apply below_alloc | apply pw_below_drewN | apply below_drew1 | refine below_set ?_ GE136.out) | exact HB.out)) hb); clear BK136; clear HB; have HO144 := n0_; have HO147 := n1_; have BK136 := n2_; have HB := n3_; clear n0_ n1_ n2_ n3_; (try clear hb); (try clear hb2); (try clear hk); (try clear hi); (try clear ho0); (try clear ho1); have hcz14_0 : w13.cell? ⟨gb136, 0, none⟩ = some (.int .i64 0) := (blk_cell BK136.out 0).trans rfl; have hcz14_1 : w13.cell? ⟨gb136, 1, none⟩ = some (.int .i64 0) := (blk_cell BK136.out 1).trans rfl; have hcz14_2 : w13.cell? ⟨gb136, 2, none⟩ = some (.string (⟨#[]⟩ : ByteArray)) := (blk_cell BK136.out 2).trans rfl; have hcz14_3 : w13.cell? ⟨gb136, 3, none⟩ = some (.slice none 0 0) := (blk_cell BK136.out 3).trans rfl; have hcz14_4 : w13.cell? ⟨gb136, 4, none⟩ = some (.slice none 0 0) := (blk_cell BK136.out 4).trans rfl; have hcz14_5 : w13.cell? ⟨gb136, 5, none⟩ = some (.int .i64 0) := (blk_cell BK136.out 5).trans rfl; have hfz14_0 := blk_frozen BK136.out 0; have hfz14_1 := blk_frozen BK136.out 1; have hfz14_2 := blk_frozen BK136.out 2; have hfz14_3 := blk_frozen BK136.out 3; have hfz14_4 := blk_frozen BK136.out 4; have hfz14_5 := blk_frozen BK136.out 5; obtain ⟨Ao15, co15, eo15⟩ := Kd.S_slice HO144.out; subst eo15; obtain ⟨Ao16, co16, eo16⟩ := Kd.S_slice HO147.out; subst eo16))
        refine bodyPost_ret (results_ct rfl _ _ gb136 27 #[.int .i64 t139, .int .i64 t140, .string t141, .slice Ao15 t142.length co15, .slice Ao16 t145.length co16, .int .i64 t148] (0, 0) _ rfl (by (with_reducible repeat (first | refine blk_drewN ?_ _ | refine blk_drew ?_ | refine blk_alloc ?_ _)); refine blk_put (cs := #[.int .i64 t139, .int .i64 t140, .string t141, .slice Ao15 t142.length co15, .slice Ao16 t145.length co16, .int .i64 0]) ?_ 5 _ rfl; (with_reducible repeat (first | refine blk_drewN ?_ _ | refine blk_drew ?_ | refine blk_alloc ?_ _)); refine blk_put (cs := #[.int .i64 t139, .int .i64 t140, .string t141, .slice Ao15 t142.length co15, .slice none 0 0, .int .i64 0]) ?_ 4 _ rfl; (with_reducible repeat (first | refine blk_drewN ?_ _ | refine blk_drew ?_ | refine blk_alloc ?_ _)); refine blk_put (cs := #[.int .i64 t139, .int .i64 t140, .string t141, .slice none 0 0, .slice none 0 0, .int .i64 0]) ?_ 3 _ rfl; (with_reducible repeat (first | refine blk_drewN ?_ _ | refine blk_drew ?_ | refine blk_alloc ?_ _)); refine blk_put (cs := #[.int .i64 t139, .int .i64 t140, .string (⟨#[]⟩ : ByteArray), .slice none 0 0, .slice none 0 0, .int .i64 0]) ?_ 2 _ rfl; (with_reducible repeat (first | refine blk_drewN ?_ _ | refine blk_drew ?_ | refine blk_alloc ?_ _)); refine blk_put (cs := #[.int .i64 t139, .int .i64 0, .string (⟨#[]⟩ : ByteArray), .slice none 0 0, .slice none 0 0, .int .i64 0]) ?_ 1 _ rfl; (with_reducible repeat (first | refine blk_drewN ?_ _ | refine blk_drew ?_ | refine blk_alloc ?_ _)); refine blk_put (cs := #[.int .i64 0, .int .i64 0, .string (⟨#[]⟩ : ByteArray), .slice none 0 0, .slice none 0 0, .int .i64 0]) ?_ 0 _ rfl; (with_reducible repeat (first | refine blk_drewN ?_ _ | refine blk_drew ?_ | refine blk_alloc ?_ _)); exact BK136.out) Tryd.underlying27 rfl (by kernel_rfl)) rfl ?_
        exact ⟨_, _, by first | rfl | (simp [errW_none, errW_some] <;> rfl) | (simp [*, errW_none, errW_some] <;> rfl), by (with_reducible repeat (first | apply Kd.S_alloc | apply Kd.S_drewN | apply Kd.S_drew)); exact Kd.S_mono (Kd.S_far (p := ⟨gb136, 5, none⟩) (Kd.S_far (p := ⟨gb136, 4, none⟩) (Kd.S_far (p := ⟨gb136, 3, none⟩) (Kd.S_far (p := ⟨gb136, 2, none⟩) (Kd.S_far (p := ⟨gb136, 1, none⟩) (Kd.S_far (p := ⟨gb136, 0, none⟩) (Kd.S_types HO144.out BK136.out (by decide)) (fun _ hk => hk.2) (.int .i64 t139)) (fun _ hk => hk.2) (.int .i64 t140)) (fun _ hk => hk.2) (.string t141)) (fun _ hk => hk.2) (.slice Ao15 t142.length co15)) (fun _ hk => hk.2) (.slice Ao16 t145.length co16)) (fun _ hk => hk.2) (.int .i64 t148)) (fun _ hk => hk.1), by (with_reducible repeat (first | apply Kd.S_alloc | apply Kd.S_drewN | apply Kd.S_drew)); exact Kd.S_mono (Kd.S_far (p := ⟨gb136, 5, none⟩) (Kd.S_far (p := ⟨gb136, 4, none⟩) (Kd.S_far (p := ⟨gb136, 3, none⟩) (Kd.S_far (p := ⟨gb136, 2, none⟩) (Kd.S_far (p := ⟨gb136, 1, none⟩) (Kd.S_far (p := ⟨gb136, 0, none⟩) (Kd.S_types HO147.out BK136.out (by decide)) (fun _ hk => hk.2) (.int .i64 t139)) (fun _ hk => hk.2) (.int .i64 t140)) (fun _ hk => hk.2) (.string t141)) (fun _ hk => hk.2) (.slice Ao15 t142.length co15)) (fun _ hk => hk.2) (.slice Ao16 t145.length co16)) (fun _ hk => hk.2) (.int .i64 t148)) (fun _ hk => hk.1), by repeat (first | (with_reducible first | exact HB.out | apply below_alloc | apply pw_below_drewN | apply below_drew1 | refine below_set ?_ GE136.out) | exact HB.out)⟩
      · rw [if_neg c9] at H
        exact absurd H (by simp)
    · rw [if_neg c8] at H
      exact absurd H (by simp)
def switchyardlaw19_awake.f (k : Nat)  : Option (Bool) := (dead_Put.f k ([] : List (S27)) 1 0 (⟨#[]⟩ : ByteArray) ([] : List (S37)) ([] : List (S37)) 5 0).bind fun bt149 => ((dead_Put.f k ([] : List (S27)) 1 9 (⟨#[]⟩ : ByteArray) ([] : List (S37)) ([] : List (S37)) 5 1).bind fun bt153 => ((dead_Find.f k bt153.1 1).bind fun bt157 => (if bt149.2 = 42 then (if bt153.2 = 0 then (if bt157.2.2.2.2.2.2 = true then (if bt157.2.1 = 9 then ((dead_Word.f 4).bind fun t169 => (some (t169.toList == ([111, 118, 101, 114] : List UInt8)))) else (some false)) else (some false)) else (some false)) else (some false))))
set_option maxHeartbeats 600000 in
set_option maxRecDepth 100000 in
theorem switchyardlaw19_awake.calls (k : Nat)  (r : Bool) (w : World) (h : switchyardlaw19_awake.f k  = some r) (hT : Tabs w) :
    Calls Tryd.prog 7 #[] w fun e w' => e = .returned (.bool r) ∧ Below w.heap.size w w' := by
  have HT := Aside0.mk hT
  clear hT
  have hu25 := Tryd.underlying25
  have hu27 := Tryd.underlying27
  have HB := Aside0.mk (Below.refl w.heap.size w)
  have H : ((dead_Put.f k ([] : List (S27)) 1 0 (⟨#[]⟩ : ByteArray) ([] : List (S37)) ([] : List (S37)) 5 0).bind fun bt149 => ((dead_Put.f k ([] : List (S27)) 1 9 (⟨#[]⟩ : ByteArray) ([] : List (S37)) ([] : List (S37)) 5 1).bind fun bt153 => ((dead_Find.f k bt153.1 1).bind fun bt157 => (if bt149.2 = 42 then (if bt153.2 = 0 then (if bt157.2.2.2.2.2.2 = true then (if bt157.2.1 = 9 then ((dead_Word.f 4).bind fun t169 => (some (t169.toList == ([111, 118, 101, 114] : List UInt8)))) else (some false)) else (some false)) else (some false)) else (some false))))) = some r := h
  clear h
  replace H := Option.bind_eq_some_iff.mp H
  obtain ⟨⟨t149, t152⟩, A10, H⟩ := H
  replace H : ((dead_Put.f k ([] : List (S27)) 1 9 (⟨#[]⟩ : ByteArray) ([] : List (S37)) ([] : List (S37)) 5 1).bind fun bt153 => ((dead_Find.f k bt153.1 1).bind fun bt157 => (if t152 = 42 then (if bt153.2 = 0 then (if bt157.2.2.2.2.2.2 = true then (if bt157.2.1 = 9 then ((dead_Word.f 4).bind fun t169 => (some (t169.toList == ([111, 118, 101, 114] : List UInt8)))) else (some false)) else (some false)) else (some false)) else (some false)))) = some r := H
  have A1 := Aside0.mk A10
  clear A10
  replace H := Option.bind_eq_some_iff.mp H
  obtain ⟨⟨t153, t156⟩, A20, H⟩ := H
  replace H : ((dead_Find.f k t153 1).bind fun bt157 => (if t152 = 42 then (if t156 = 0 then (if bt157.2.2.2.2.2.2 = true then (if bt157.2.1 = 9 then ((dead_Word.f 4).bind fun t169 => (some (t169.toList == ([111, 118, 101, 114] : List UInt8)))) else (some false)) else (some false)) else (some false)) else (some false))) = some r := H
  have A2 := Aside0.mk A20
  clear A20
  replace H := Option.bind_eq_some_iff.mp H
  obtain ⟨⟨t157, t158, t159, t160, t163, t166, t167⟩, A30, H⟩ := H
  replace H : (if t152 = 42 then (if t156 = 0 then (if t167 = true then (if t158 = 9 then ((dead_Word.f 4).bind fun t169 => (some (t169.toList == ([111, 118, 101, 114] : List UInt8)))) else (some false)) else (some false)) else (some false)) else (some false)) = some r := H
  have A3 := Aside0.mk A30
  clear A30
  by_cases c4 : t152 = 42
  · rw [if_pos c4] at H
    have c4b0 : (t152 == 42) = true := beq_iff_eq.mpr c4
    have c4b1 : (t152 != 42) = false := bne_eq_false_iff_eq.mpr c4
    clear c4
    by_cases c5 : t156 = 0
    · rw [if_pos c5] at H
      have c5b0 : (t156 == 0) = true := beq_iff_eq.mpr c5
      have c5b1 : (t156 != 0) = false := bne_eq_false_iff_eq.mpr c5
      clear c5
      by_cases c6 : t167 = true
      · subst c6
        have H1 : (if t158 = 9 then ((dead_Word.f 4).bind fun t169 => (some (t169.toList == ([111, 118, 101, 114] : List UInt8)))) else (some false)) = some r := by rw [if_pos rfl] at H; exact H
        clear H
        have H := H1
        clear H1
        by_cases c7 : t158 = 9
        · rw [if_pos c7] at H
          have c7b0 : (t158 == 9) = true := beq_iff_eq.mpr c7
          have c7b1 : (t158 != 9) = false := bne_eq_false_iff_eq.mpr c7
          clear c7
          replace H := Option.bind_eq_some_iff.mp H
          obtain ⟨t169, A80, H⟩ := H
          replace H : (some (t169.toList == ([111, 118, 101, 114] : List UInt8))) = some r := H
          have A8 := Aside0.mk A80
          clear A80
          obtain rfl := Option.some.inj H
          go_enter Tryd.func7, Tryd.ntmps7
          go_wp2_with (first | ((with_reducible refine gate_callee (f := 9) rfl ?_); refine goesL_ (some 9) rfl rfl Tryd.func9 (by kernel_rfl) rfl #[.slice none 0 0, .int .i64 1, .agg #[.int .i64 0, .string (⟨#[]⟩ : ByteArray), .slice none 0 0, .slice none 0 0], .int .i64 5, .int .i64 0] rfl (by (try simp only [List.map_toArray, List.map_cons, List.map_nil]); first | done | rfl | (simp only [List.length_drop, List.length_take]; rfl)) ?_; (refine (dead_Put.calls k _ _ ([] : List (S27)) 1 0 (⟨#[]⟩ : ByteArray) _ _ ([] : List (S37)) _ _ ([] : List (S37)) 5 0 t149 t152 _ ?side1 ?side2 ?side3 ?side4 ?side5 ?side6 A1.out (Tabs.below HT.out (by repeat (first | (with_reducible first | exact HB.out | apply below_alloc | apply pw_below_drewN | apply below_drew1) | exact HB.out)))).mono ?_); (case side1 => exact Kd.C_nil _ _); (case side2 => exact Nat.le_refl _); (case side3 => exact Kd.C_nil _ _); (case side4 => exact Nat.le_refl _); (case side5 => exact Kd.C_nil _ _); (case side6 => exact Nat.le_refl _); rintro e w9 ⟨v150, rfl, ho0, hb⟩; refine ⟨_, rfl, ?_⟩; have n0_ := Aside0.mk (Kd.R_lower ho0 (below_size (by repeat (first | (with_reducible first | exact HB.out | apply below_alloc | apply pw_below_drewN | apply below_drew1) | exact HB.out)))); have n1_ := Aside0.mk (below_step (by repeat (first | (with_reducible first | exact HB.out | apply below_alloc | apply pw_below_drewN | apply below_drew1) | exact HB.out)) hb); clear HB; have HO151 := n0_; have HB := n1_; clear n0_ n1_; (try clear hb); (try clear hb2); (try clear hk); (try clear hi); (try clear ho0)) | ((with_reducible refine gate_callee (f := 9) rfl ?_); refine goesL_ (some 14) rfl rfl Tryd.func9 (by kernel_rfl) rfl #[.slice none 0 0, .int .i64 1, .agg #[.int .i64 9, .string (⟨#[]⟩ : ByteArray), .slice none 0 0, .slice none 0 0], .int .i64 5, .int .i64 1] rfl (by (try simp only [List.map_toArray, List.map_cons, List.map_nil]); first | done | rfl | (simp only [List.length_drop, List.length_take]; rfl)) ?_; (refine (dead_Put.calls k _ _ ([] : List (S27)) 1 9 (⟨#[]⟩ : ByteArray) _ _ ([] : List (S37)) _ _ ([] : List (S37)) 5 1 t153 t156 _ ?side1 ?side2 ?side3 ?side4 ?side5 ?side6 A2.out (Tabs.below HT.out (by repeat (first | (with_reducible first | exact HB.out | apply below_alloc | apply pw_below_drewN | apply below_drew1) | exact HB.out)))).mono ?_); (case side1 => exact Kd.C_nil _ _); (case side2 => exact Nat.le_refl _); (case side3 => exact Kd.C_nil _ _); (case side4 => exact Nat.le_refl _); (case side5 => exact Kd.C_nil _ _); (case side6 => exact Nat.le_refl _); rintro e w10 ⟨v154, rfl, ho0, hb⟩; refine ⟨_, rfl, ?_⟩; have n0_ := Aside0.mk (Kd.R_elder' (by (with_reducible repeat (first | apply Kd.R_alloc | apply Kd.R_drewN | apply Kd.R_drew)); exact HO151.out) (Kd.R_base ho0) hb); have n1_ := Aside0.mk (Kd.R_lower (Kd.R_new' ho0 (Kd.R_lt (by (with_reducible repeat (first | apply Kd.R_alloc | apply Kd.R_drewN | apply Kd.R_drew)); exact HO151.out))) (below_size (by repeat (first | (with_reducible first | exact HB.out | apply below_alloc | apply pw_below_drewN | apply below_drew1) | exact HB.out)))); have n2_ := Aside0.mk (below_step (by repeat (first | (with_reducible first | exact HB.out | apply below_alloc | apply pw_below_drewN | apply below_drew1) | exact HB.out)) hb); clear HO151; clear HB; have HO151 := n0_; have HO155 := n1_; have HB := n2_; clear n0_ n1_ n2_; (try clear hb); (try clear hb2); (try clear hk); (try clear hi); (try clear ho0); obtain ⟨Ao11, co11, eo11⟩ := Kd.R_slice HO155.out; subst eo11) | ((with_reducible refine gate_callee (f := 10) rfl ?_); refine goesL_ (some 19) rfl rfl Tryd.func10 (by kernel_rfl) rfl #[.slice Ao11 t153.length co11, .int .i64 1] rfl (by (try simp only [List.map_toArray, List.map_cons, List.map_nil]); first | done | rfl | (simp only [List.length_drop, List.length_take]; rfl)) ?_; (with_reducible refine (dead_Find.calls k _ _ t153 1 t157 t158 t159 t160 t163 t166 true _ ?side1 ?side2 A3.out).mono ?_); (case side1 => repeat (first | exact (Kd.R_reads' HO155.out).2.2 | (with_reducible refine Kd.C_alloc ?_ _) | (with_reducible refine Kd.C_drewN ?_ _) | (with_reducible refine Kd.C_drew ?_))); (case side2 => exact (Kd.R_reads' HO155.out).2.1); rintro e w12 ⟨v161, v164, rfl, ho0, ho1, hb⟩; refine ⟨_, rfl, ?_⟩; have n0_ := Aside0.mk (Kd.R_mono (Kd.R_told (Kd.R_told (Kd.R_old (by (with_reducible repeat (first | apply Kd.R_alloc | apply Kd.R_drewN | apply Kd.R_drew)); exact HO151.out) hb) (Kd.S_base ho0)) (Kd.S_base ho1)) (fun _ h_ => h_.1)); have n1_ := Aside0.mk (Kd.R_mono (Kd.R_told (Kd.R_told (Kd.R_old (by (with_reducible repeat (first | apply Kd.R_alloc | apply Kd.R_drewN | apply Kd.R_drew)); exact HO155.out) hb) (Kd.S_base ho0)) (Kd.S_base ho1)) (fun _ h_ => h_.1)); have n2_ := Aside0.mk (Kd.S_lower ho0 (below_size (by repeat (first | (with_reducible first | exact HB.out | apply below_alloc | apply pw_below_drewN | apply below_drew1) | exact HB.out)))); have n3_ := Aside0.mk (Kd.S_lower ho1 (below_size (by repeat (first | (with_reducible first | exact HB.out | apply below_alloc | apply pw_below_drewN | apply below_drew1) | exact HB.out)))); have n4_ := Aside0.mk (below_step (by repeat (first | (with_reducible first | exact HB.out | apply below_alloc | apply pw_below_drewN | apply below_drew1) | exact HB.out)) hb); clear HO151; clear HO155; clear HB; have HO151 := n0_; have HO155 := n1_; have HO162 := n2_; have HO165 := n3_; have HB := n4_; clear n0_ n1_ n2_ n3_ n4_; (try clear hb); (try clear hb2); (try clear hk); (try clear hi); (try clear ho0); (try clear ho1)) | ((with_reducible refine gate_dst (N := 5) rfl ?_); refine box_event ?hg (N := 5) ?hd (cs := #[.int .i64 0, .int .i64 0, .string (⟨#[]⟩ : ByteArray), .slice none 0 0, .slice none 0 0, .int .i64 0]) (t := 27) ?hr ?_; (case hd => rfl); (case hg => rfl); (case hr => first | (go_simp; done) | (go_simp; rfl)); intro gb168 hg w13 hbox hb; have n0_ := Aside0.mk (Kd.R_below (Kd.R_elderB (by (with_reducible repeat (first | apply Kd.R_alloc | apply Kd.R_drewN | apply Kd.R_drew)); exact HO151.out) gb168 (Nat.le_of_eq hg.symm)) hb); have n1_ := Aside0.mk (Kd.R_below (Kd.R_elderB (by (with_reducible repeat (first | apply Kd.R_alloc | apply Kd.R_drewN | apply Kd.R_drew)); exact HO155.out) gb168 (Nat.le_of_eq hg.symm)) hb); have n2_ := Aside0.mk (Kd.S_below (by (with_reducible repeat (first | apply Kd.S_alloc | apply Kd.S_drewN | apply Kd.S_drew)); exact HO162.out) hb); have n3_ := Aside0.mk (Kd.S_below (by (with_reducible repeat (first | apply Kd.S_alloc | apply Kd.S_drewN | apply Kd.S_drew)); exact HO165.out) hb); have n4_ := Aside0.mk (below_step (by repeat (first | (with_reducible first | exact HB.out | apply below_alloc | apply pw_below_drewN | apply below_drew1) | exact HB.out)) hb); have n5_ := Aside0.mk (hbox); have n6_ := Aside0.mk ((by rw [hg]; exact (below_size (by repeat (first | (with_reducible first | exact HB.out | apply below_alloc | apply pw_below_drewN | apply below_drew1) | exact HB.out))) : w.heap.size ≤ gb168)); have n7_ := Aside0.mk ((by rw [hg]; exact (below_size (by repeat (first | (with_reducible first | exact HB.out | apply below_alloc | apply pw_below_drewN | apply below_drew1) | exact HB.out))) : w.heap.size ≤ gb168)); clear HO151; clear HO155; clear HO162; clear HO165; clear HB; have HO151 := n0_; have HO155 := n1_; have HO162 := n2_; have HO165 := n3_; have HB := n4_; have BK168 := n5_; have GW168 := n6_; have GE168 := n7_; clear n0_ n1_ n2_ n3_ n4_ n5_ n6_ n7_; clear hb hbox hg; have hcz14_0 : w13.cell? ⟨gb168, 0, none⟩ = some (.int .i64 0) := (blk_cell BK168.out 0).trans rfl; have hcz14_1 : w13.cell? ⟨gb168, 1, none⟩ = some (.int .i64 0) := (blk_cell BK168.out 1).trans rfl; have hcz14_2 : w13.cell? ⟨gb168, 2, none⟩ = some (.string (⟨#[]⟩ : ByteArray)) := (blk_cell BK168.out 2).trans rfl; have hcz14_3 : w13.cell? ⟨gb168, 3, none⟩ = some (.slice none 0 0) := (blk_cell BK168.out 3).trans rfl; have hcz14_4 : w13.cell? ⟨gb168, 4, none⟩ = some (.slice none 0 0) := (blk_cell BK168.out 4).trans rfl; have hcz14_5 : w13.cell? ⟨gb168, 5, none⟩ = some (.int .i64 0) := (blk_cell BK168.out 5).trans rfl; have hfz14_0 := blk_frozen BK168.out 0; have hfz14_1 := blk_frozen BK168.out 1; have hfz14_2 := blk_frozen BK168.out 2; have hfz14_3 := blk_frozen BK168.out 3; have hfz14_4 := blk_frozen BK168.out 4; have hfz14_5 := blk_frozen BK168.out 5; obtain ⟨Ao15, co15, eo15⟩ := Kd.S_slice HO162.out; subst eo15; obtain ⟨Ao16, co16, eo16⟩ := Kd.S_slice HO165.out; subst eo16) | (go_at_call 12; refine calls_of_args (args' := #[.int .i64 4]) (by first | rfl) ?_; (with_reducible refine (dead_Word.calls 4 t169 _ A8.out (Tabs.below HT.out (by repeat (first | (with_reducible first | exact HB.out | apply below_alloc | apply pw_below_drewN | apply below_drew1 | refine below_set ?_ GE168.out) | exact HB.out)))).mono ?_); rintro e w17 ⟨rfl, hb⟩; have n0_ := Aside0.mk (Kd.R_below (by (with_reducible repeat (first | apply Kd.R_alloc | apply Kd.R_drewN | apply Kd.R_drew)); exact (Kd.R_mono (Kd.R_far (p := ⟨gb168, 5, none⟩) (Kd.R_far (p := ⟨gb168, 4, none⟩) (Kd.R_far (p := ⟨gb168, 3, none⟩) (Kd.R_far (p := ⟨gb168, 2, none⟩) (Kd.R_far (p := ⟨gb168, 1, none⟩) (Kd.R_far (p := ⟨gb168, 0, none⟩) (Kd.R_mono HO151.out (fun k_ hk => (⟨hk, hk.2⟩ : _ ∧ k_ ≠ gb168))) (fun _ hk => hk.2) (.int .i64 t157)) (fun _ hk => hk.2) (.int .i64 t158)) (fun _ hk => hk.2) (.string t159)) (fun _ hk => hk.2) (.slice Ao15 t160.length co15)) (fun _ hk => hk.2) (.slice Ao16 t163.length co16)) (fun _ hk => hk.2) (.int .i64 t166)) (fun _ h_ => h_.1))) hb); have n1_ := Aside0.mk (Kd.R_below (by (with_reducible repeat (first | apply Kd.R_alloc | apply Kd.R_drewN | apply Kd.R_drew)); exact (Kd.R_mono (Kd.R_far (p := ⟨gb168, 5, none⟩) (Kd.R_far (p := ⟨gb168, 4, none⟩) (Kd.R_far (p := ⟨gb168, 3, none⟩) (Kd.R_far (p := ⟨gb168, 2, none⟩) (Kd.R_far (p := ⟨gb168, 1, none⟩) (Kd.R_far (p := ⟨gb168, 0, none⟩) (Kd.R_mono HO155.out (fun k_ hk => (⟨hk, hk.2⟩ : _ ∧ k_ ≠ gb168))) (fun _ hk => hk.2) (.int .i64 t157)) (fun _ hk => hk.2) (.int .i64 t158)) (fun _ hk => hk.2) (.string t159)) (fun _ hk => hk.2) (.slice Ao15 t160.length co15)) (fun _ hk => hk.2) (.slice Ao16 t163.length co16)) (fun _ hk => hk.2) (.int .i64 t166)) (fun _ h_ => h_.1))) hb); have n2_ := Aside0.mk (Kd.S_below (by (with_reducible repeat (first | apply Kd.S_alloc | apply Kd.S_drewN | apply Kd.S_drew)); exact (Kd.S_mono (Kd.S_far (p := ⟨gb168, 5, none⟩) (Kd.S_far (p := ⟨gb168, 4, none⟩) (Kd.S_far (p := ⟨gb168, 3, none⟩) (Kd.S_far (p := ⟨gb168, 2, none⟩) (Kd.S_far (p := ⟨gb168, 1, none⟩) (Kd.S_far (p := ⟨gb168, 0, none⟩) (Kd.S_types HO162.out BK168.out (by decide)) (fun _ hk => hk.2) (.int .i64 t157)) (fun _ hk => hk.2) (.int .i64 t158)) (fun _ hk => hk.2) (.string t159)) (fun _ hk => hk.2) (.slice Ao15 t160.length co15)) (fun _ hk => hk.2) (.slice Ao16 t163.length co16)) (fun _ hk => hk.2) (.int .i64 t166)) (fun _ h_ => h_.1))) hb); have n3_ := Aside0.mk (Kd.S_below (by (with_reducible repeat (first | apply Kd.S_alloc | apply Kd.S_drewN | apply Kd.S_drew)); exact (Kd.S_mono (Kd.S_far (p := ⟨gb168, 5, none⟩) (Kd.S_far (p := ⟨gb168, 4, none⟩) (Kd.S_far (p := ⟨gb168, 3, none⟩) (Kd.S_far (p := ⟨gb168, 2, none⟩) (Kd.S_far (p := ⟨gb168, 1, none⟩) (Kd.S_far (p := ⟨gb168, 0, none⟩) (Kd.S_types HO165.out BK168.out (by decide)) (fun _ hk => hk.2) (.int .i64 t157)) (fun _ hk => hk.2) (.int .i64 t158)) (fun _ hk => hk.2) (.string t159)) (fun _ hk => hk.2) (.slice Ao15 t160.length co15)) (fun _ hk => hk.2) (.slice Ao16 t163.length co16)) (fun _ hk => hk.2) (.int .i64 t166)) (fun _ h_ => h_.1))) hb); have n4_ := Aside0.mk (blk_below (g := gb168) (o := .cells #[.int .i64 t157, .int .i64 t158, .string t159, .slice Ao15 t160.length co15, .slice Ao16 t163.length co16, .int .i64 t166] 27 (0, 0)) (by (with_reducible repeat (first | refine blk_drewN ?_ _ | refine blk_drew ?_ | refine blk_alloc ?_ _)); refine blk_put (cs := #[.int .i64 t157, .int .i64 t158, .string t159, .slice Ao15 t160.length co15, .slice Ao16 t163.length co16, .int .i64 0]) ?_ 5 _ rfl; (with_reducible repeat (first | refine blk_drewN ?_ _ | refine blk_drew ?_ | refine blk_alloc ?_ _)); refine blk_put (cs := #[.int .i64 t157, .int .i64 t158, .string t159, .slice Ao15 t160.length co15, .slice none 0 0, .int .i64 0]) ?_ 4 _ rfl; (with_reducible repeat (first | refine blk_drewN ?_ _ | refine blk_drew ?_ | refine blk_alloc ?_ _)); refine blk_put (cs := #[.int .i64 t157, .int .i64 t158, .string t159, .slice none 0 0, .slice none 0 0, .int .i64 0]) ?_ 3 _ rfl; (with_reducible repeat (first | refine blk_drewN ?_ _ | refine blk_drew ?_ | refine blk_alloc ?_ _)); refine blk_put (cs := #[.int .i64 t157, .int .i64 t158, .string (⟨#[]⟩ : ByteArray), .slice none 0 0, .slice none 0 0, .int .i64 0]) ?_ 2 _ rfl; (with_reducible repeat (first | refine blk_drewN ?_ _ | refine blk_drew ?_ | refine blk_alloc ?_ _)); refine blk_put (cs := #[.int .i64 t157, .int .i64 0, .string (⟨#[]⟩ : ByteArray), .slice none 0 0, .slice none 0 0, .int .i64 0]) ?_ 1 _ rfl; (with_reducible repeat (first | refine blk_drewN ?_ _ | refine blk_drew ?_ | refine blk_alloc ?_ _)); refine blk_put (cs := #[.int .i64 0, .int .i64 0, .string (⟨#[]⟩ : ByteArray), .slice none 0 0, .slice none 0 0, .int .i64 0]) ?_ 0 _ rfl; (with_reducible repeat (first | refine blk_drewN ?_ _ | refine blk_drew ?_ | refine blk_alloc ?_ _)); exact BK168.out) hb); have n5_ := Aside0.mk (below_step (by repeat (first | (with_reducible first | exact HB.out | apply below_alloc | apply pw_below_drewN | apply below_drew1 | refine below_set ?_ GE168.out) | exact HB.out)) hb); clear HO151; clear HO155; clear HO162; clear HO165; clear BK168; clear HB; have HO151 := n0_; have HO155 := n1_; have HO162 := n2_; have HO165 := n3_; have BK168 := n4_; have HB := n5_; clear n0_ n1_ n2_ n3_ n4_ n5_; (try clear hb); (try clear hb2); (try clear hk); (try clear hi)))
          go_ret
          exact ⟨by first | rfl | (simp [errW_none, errW_some] <;> rfl) | (simp [*, errW_none, errW_some] <;> rfl), by repeat (first | (with_reducible first | exact HB.out | apply below_alloc | apply pw_below_drewN | apply below_drew1 | refine below_set ?_ GE168.out) | exact HB.out)⟩
        · rw [if_neg c7] at H
          have c7b0 : (t158 == 9) = false := beq_eq_false_iff_ne.mpr c7
          have c7b1 : (t158 != 9) = true := bne_iff_ne.mpr c7
          obtain rfl := Option.some.inj H
          go_enter Tryd.func7, Tryd.ntmps7
          go_wp2_with (first | ((with_reducible refine gate_callee (f := 9) rfl ?_); refine goesL_ (some 9) rfl rfl Tryd.func9 (by kernel_rfl) rfl #[.slice none 0 0, .int .i64 1, .agg #[.int .i64 0, .string (⟨#[]⟩ : ByteArray), .slice none 0 0, .slice none 0 0], .int .i64 5, .int .i64 0] rfl (by (try simp only [List.map_toArray, List.map_cons, List.map_nil]); first | done | rfl | (simp only [List.length_drop, List.length_take]; rfl)) ?_; (refine (dead_Put.calls k _ _ ([] : List (S27)) 1 0 (⟨#[]⟩ : ByteArray) _ _ ([] : List (S37)) _ _ ([] : List (S37)) 5 0 t149 t152 _ ?side1 ?side2 ?side3 ?side4 ?side5 ?side6 A1.out (Tabs.below HT.out (by repeat (first | (with_reducible first | exact HB.out | apply below_alloc | apply pw_below_drewN | apply below_drew1) | exact HB.out)))).mono ?_); (case side1 => exact Kd.C_nil _ _); (case side2 => exact Nat.le_refl _); (case side3 => exact Kd.C_nil _ _); (case side4 => exact Nat.le_refl _); (case side5 => exact Kd.C_nil _ _); (case side6 => exact Nat.le_refl _); rintro e w18 ⟨v150, rfl, ho0, hb⟩; refine ⟨_, rfl, ?_⟩; have n0_ := Aside0.mk (Kd.R_lower ho0 (below_size (by repeat (first | (with_reducible first | exact HB.out | apply below_alloc | apply pw_below_drewN | apply below_drew1) | exact HB.out)))); have n1_ := Aside0.mk (below_step (by repeat (first | (with_reducible first | exact HB.out | apply below_alloc | apply pw_below_drewN | apply below_drew1) | exact HB.out)) hb); clear HB; have HO151 := n0_; have HB := n1_; clear n0_ n1_; (try clear hb); (try clear hb2); (try clear hk); (try clear hi); (try clear ho0)) | ((with_reducible refine gate_callee (f := 9) rfl ?_); refine goesL_ (some 14) rfl rfl Tryd.func9 (by kernel_rfl) rfl #[.slice none 0 0, .int .i64 1, .agg #[.int .i64 9, .string (⟨#[]⟩ : ByteArray), .slice none 0 0, .slice none 0 0], .int .i64 5, .int .i64 1] rfl (by (try simp only [List.map_toArray, List.map_cons, List.map_nil]); first | done | rfl | (simp only [List.length_drop, List.length_take]; rfl)) ?_; (refine (dead_Put.calls k _ _ ([] : List (S27)) 1 9 (⟨#[]⟩ : ByteArray) _ _ ([] : List (S37)) _ _ ([] : List (S37)) 5 1 t153 t156 _ ?side1 ?side2 ?side3 ?side4 ?side5 ?side6 A2.out (Tabs.below HT.out (by repeat (first | (with_reducible first | exact HB.out | apply below_alloc | apply pw_below_drewN | apply below_drew1) | exact HB.out)))).mono ?_); (case side1 => exact Kd.C_nil _ _); (case side2 => exact Nat.le_refl _); (case side3 => exact Kd.C_nil _ _); (case side4 => exact Nat.le_refl _); (case side5 => exact Kd.C_nil _ _); (case side6 => exact Nat.le_refl _); rintro e w19 ⟨v154, rfl, ho0, hb⟩; refine ⟨_, rfl, ?_⟩; have n0_ := Aside0.mk (Kd.R_elder' (by (with_reducible repeat (first | apply Kd.R_alloc | apply Kd.R_drewN | apply Kd.R_drew)); exact HO151.out) (Kd.R_base ho0) hb); have n1_ := Aside0.mk (Kd.R_lower (Kd.R_new' ho0 (Kd.R_lt (by (with_reducible repeat (first | apply Kd.R_alloc | apply Kd.R_drewN | apply Kd.R_drew)); exact HO151.out))) (below_size (by repeat (first | (with_reducible first | exact HB.out | apply below_alloc | apply pw_below_drewN | apply below_drew1) | exact HB.out)))); have n2_ := Aside0.mk (below_step (by repeat (first | (with_reducible first | exact HB.out | apply below_alloc | apply pw_below_drewN | apply below_drew1) | exact HB.out)) hb); clear HO151; clear HB; have HO151 := n0_; have HO155 := n1_; have HB := n2_; clear n0_ n1_ n2_; (try clear hb); (try clear hb2); (try clear hk); (try clear hi); (try clear ho0); obtain ⟨Ao20, co20, eo20⟩ := Kd.R_slice HO155.out; subst eo20) | ((with_reducible refine gate_callee (f := 10) rfl ?_); refine goesL_ (some 19) rfl rfl Tryd.func10 (by kernel_rfl) rfl #[.slice Ao20 t153.length co20, .int .i64 1] rfl (by (try simp only [List.map_toArray, List.map_cons, List.map_nil]); first | done | rfl | (simp only [List.length_drop, List.length_take]; rfl)) ?_; (with_reducible refine (dead_Find.calls k _ _ t153 1 t157 t158 t159 t160 t163 t166 true _ ?side1 ?side2 A3.out).mono ?_); (case side1 => repeat (first | exact (Kd.R_reads' HO155.out).2.2 | (with_reducible refine Kd.C_alloc ?_ _) | (with_reducible refine Kd.C_drewN ?_ _) | (with_reducible refine Kd.C_drew ?_))); (case side2 => exact (Kd.R_reads' HO155.out).2.1); rintro e w21 ⟨v161, v164, rfl, ho0, ho1, hb⟩; refine ⟨_, rfl, ?_⟩; have n0_ := Aside0.mk (Kd.R_mono (Kd.R_told (Kd.R_told (Kd.R_old (by (with_reducible repeat (first | apply Kd.R_alloc | apply Kd.R_drewN | apply Kd.R_drew)); exact HO151.out) hb) (Kd.S_base ho0)) (Kd.S_base ho1)) (fun _ h_ => h_.1)); have n1_ := Aside0.mk (Kd.R_mono (Kd.R_told (Kd.R_told (Kd.R_old (by (with_reducible repeat (first | apply Kd.R_alloc | apply Kd.R_drewN | apply Kd.R_drew)); exact HO155.out) hb) (Kd.S_base ho0)) (Kd.S_base ho1)) (fun _ h_ => h_.1)); have n2_ := Aside0.mk (Kd.S_lower ho0 (below_size (by repeat (first | (with_reducible first | exact HB.out | apply below_alloc | apply pw_below_drewN | apply below_drew1) | exact HB.out)))); have n3_ := Aside0.mk (Kd.S_lower ho1 (below_size (by repeat (first | (with_reducible first | exact HB.out | apply below_alloc | apply pw_below_drewN | apply below_drew1) | exact HB.out)))); have n4_ := Aside0.mk (below_step (by repeat (first | (with_reducible first | exact HB.out | apply below_alloc | apply pw_below_drewN | apply below_drew1) | exact HB.out)) hb); clear HO151; clear HO155; clear HB; have HO151 := n0_; have HO155 := n1_; have HO162 := n2_; have HO165 := n3_; have HB := n4_; clear n0_ n1_ n2_ n3_ n4_; (try clear hb); (try clear hb2); (try clear hk); (try clear hi); (try clear ho0); (try clear ho1)) | ((with_reducible refine gate_dst (N := 5) rfl ?_); refine box_event ?hg (N := 5) ?hd (cs := #[.int .i64 0, .int .i64 0, .string (⟨#[]⟩ : ByteArray), .slice none 0 0, .slice none 0 0, .int .i64 0]) (t := 27) ?hr ?_; (case hd => rfl); (case hg => rfl); (case hr => first | (go_simp; done) | (go_simp; rfl)); intro gb168 hg w22 hbox hb; have n0_ := Aside0.mk (Kd.R_below (Kd.R_elderB (by (with_reducible repeat (first | apply Kd.R_alloc | apply Kd.R_drewN | apply Kd.R_drew)); exact HO151.out) gb168 (Nat.le_of_eq hg.symm)) hb); have n1_ := Aside0.mk (Kd.R_below (Kd.R_elderB (by (with_reducible repeat (first | apply Kd.R_alloc | apply Kd.R_drewN | apply Kd.R_drew)); exact HO155.out) gb168 (Nat.le_of_eq hg.symm)) hb); have n2_ := Aside0.mk (Kd.S_below (by (with_reducible repeat (first | apply Kd.S_alloc | apply Kd.S_drewN | apply Kd.S_drew)); exact HO162.out) hb); have n3_ := Aside0.mk (Kd.S_below (by (with_reducible repeat (first | apply Kd.S_alloc | apply Kd.S_drewN | apply Kd.S_drew)); exact HO165.out) hb); have n4_ := Aside0.mk (below_step (by repeat (first | (with_reducible first | exact HB.out | apply below_alloc | apply pw_below_drewN | apply below_drew1) | exact HB.out)) hb); have n5_ := Aside0.mk (hbox); have n6_ := Aside0.mk ((by rw [hg]; exact (below_size (by repeat (first | (with_reducible first | exact HB.out | apply below_alloc | apply pw_below_drewN | apply below_drew1) | exact HB.out))) : w.heap.size ≤ gb168)); have n7_ := Aside0.mk ((by rw [hg]; exact (below_size (by repeat (first | (with_reducible first | exact HB.out | apply below_alloc | apply pw_below_drewN | apply below_drew1) | exact HB.out))) : w.heap.size ≤ gb168)); clear HO151; clear HO155; clear HO162; clear HO165; clear HB; have HO151 := n0_; have HO155 := n1_; have HO162 := n2_; have HO165 := n3_; have HB := n4_; have BK168 := n5_; have GW168 := n6_; have GE168 := n7_; clear n0_ n1_ n2_ n3_ n4_ n5_ n6_ n7_; clear hb hbox hg; have hcz23_0 : w22.cell? ⟨gb168, 0, none⟩ = some (.int .i64 0) := (blk_cell BK168.out 0).trans rfl; have hcz23_1 : w22.cell? ⟨gb168, 1, none⟩ = some (.int .i64 0) := (blk_cell BK168.out 1).trans rfl; have hcz23_2 : w22.cell? ⟨gb168, 2, none⟩ = some (.string (⟨#[]⟩ : ByteArray)) := (blk_cell BK168.out 2).trans rfl; have hcz23_3 : w22.cell? ⟨gb168, 3, none⟩ = some (.slice none 0 0) := (blk_cell BK168.out 3).trans rfl; have hcz23_4 : w22.cell? ⟨gb168, 4, none⟩ = some (.slice none 0 0) := (blk_cell BK168.out 4).trans rfl; have hcz23_5 : w22.cell? ⟨gb168, 5, none⟩ = some (.int .i64 0) := (blk_cell BK168.out 5).trans rfl; have hfz23_0 := blk_frozen BK168.out 0; have hfz23_1 := blk_frozen BK168.out 1; have hfz23_2 := blk_frozen BK168.out 2; have hfz23_3 := blk_frozen BK168.out 3; have hfz23_4 := blk_frozen BK168.out 4; have hfz23_5 := blk_frozen BK168.out 5; obtain ⟨Ao24, co24, eo24⟩ := Kd.S_slice HO162.out; subst eo24; obtain ⟨Ao25, co25, eo25⟩ := Kd.S_slice HO165.out; subst eo25))
          go_ret
          exact ⟨by first | rfl | (simp [errW_none, errW_some] <;> rfl) | (simp [*, errW_none, errW_some] <;> rfl), by repeat (first | (with_reducible first | exact HB.out | apply below_alloc | apply pw_below_drewN | apply below_drew1 | refine below_set ?_ GE168.out) | exact HB.out)⟩
      · replace c6 := Bool.eq_false_iff.mpr c6
        subst c6
        have H1 : (some false) = some r := by rw [if_neg (show ¬ (false = true) by decide)] at H; exact H
        clear H
        have H := H1
        clear H1
        obtain rfl := Option.some.inj H
        go_enter Tryd.func7, Tryd.ntmps7
        go_wp2_with (first | ((with_reducible refine gate_callee (f := 9) rfl ?_); refine goesL_ (some 9) rfl rfl Tryd.func9 (by kernel_rfl) rfl #[.slice none 0 0, .int .i64 1, .agg #[.int .i64 0, .string (⟨#[]⟩ : ByteArray), .slice none 0 0, .slice none 0 0], .int .i64 5, .int .i64 0] rfl (by (try simp only [List.map_toArray, List.map_cons, List.map_nil]); first | done | rfl | (simp only [List.length_drop, List.length_take]; rfl)) ?_; (refine (dead_Put.calls k _ _ ([] : List (S27)) 1 0 (⟨#[]⟩ : ByteArray) _ _ ([] : List (S37)) _ _ ([] : List (S37)) 5 0 t149 t152 _ ?side1 ?side2 ?side3 ?side4 ?side5 ?side6 A1.out (Tabs.below HT.out (by repeat (first | (with_reducible first | exact HB.out | apply below_alloc | apply pw_below_drewN | apply below_drew1) | exact HB.out)))).mono ?_); (case side1 => exact Kd.C_nil _ _); (case side2 => exact Nat.le_refl _); (case side3 => exact Kd.C_nil _ _); (case side4 => exact Nat.le_refl _); (case side5 => exact Kd.C_nil _ _); (case side6 => exact Nat.le_refl _); rintro e w26 ⟨v150, rfl, ho0, hb⟩; refine ⟨_, rfl, ?_⟩; have n0_ := Aside0.mk (Kd.R_lower ho0 (below_size (by repeat (first | (with_reducible first | exact HB.out | apply below_alloc | apply pw_below_drewN | apply below_drew1) | exact HB.out)))); have n1_ := Aside0.mk (below_step (by repeat (first | (with_reducible first | exact HB.out | apply below_alloc | apply pw_below_drewN | apply below_drew1) | exact HB.out)) hb); clear HB; have HO151 := n0_; have HB := n1_; clear n0_ n1_; (try clear hb); (try clear hb2); (try clear hk); (try clear hi); (try clear ho0)) | ((with_reducible refine gate_callee (f := 9) rfl ?_); refine goesL_ (some 14) rfl rfl Tryd.func9 (by kernel_rfl) rfl #[.slice none 0 0, .int .i64 1, .agg #[.int .i64 9, .string (⟨#[]⟩ : ByteArray), .slice none 0 0, .slice none 0 0], .int .i64 5, .int .i64 1] rfl (by (try simp only [List.map_toArray, List.map_cons, List.map_nil]); first | done | rfl | (simp only [List.length_drop, List.length_take]; rfl)) ?_; (refine (dead_Put.calls k _ _ ([] : List (S27)) 1 9 (⟨#[]⟩ : ByteArray) _ _ ([] : List (S37)) _ _ ([] : List (S37)) 5 1 t153 t156 _ ?side1 ?side2 ?side3 ?side4 ?side5 ?side6 A2.out (Tabs.below HT.out (by repeat (first | (with_reducible first | exact HB.out | apply below_alloc | apply pw_below_drewN | apply below_drew1) | exact HB.out)))).mono ?_); (case side1 => exact Kd.C_nil _ _); (case side2 => exact Nat.le_refl _); (case side3 => exact Kd.C_nil _ _); (case side4 => exact Nat.le_refl _); (case side5 => exact Kd.C_nil _ _); (case side6 => exact Nat.le_refl _); rintro e w27 ⟨v154, rfl, ho0, hb⟩; refine ⟨_, rfl, ?_⟩; have n0_ := Aside0.mk (Kd.R_elder' (by (with_reducible repeat (first | apply Kd.R_alloc | apply Kd.R_drewN | apply Kd.R_drew)); exact HO151.out) (Kd.R_base ho0) hb); have n1_ := Aside0.mk (Kd.R_lower (Kd.R_new' ho0 (Kd.R_lt (by (with_reducible repeat (first | apply Kd.R_alloc | apply Kd.R_drewN | apply Kd.R_drew)); exact HO151.out))) (below_size (by repeat (first | (with_reducible first | exact HB.out | apply below_alloc | apply pw_below_drewN | apply below_drew1) | exact HB.out)))); have n2_ := Aside0.mk (below_step (by repeat (first | (with_reducible first | exact HB.out | apply below_alloc | apply pw_below_drewN | apply below_drew1) | exact HB.out)) hb); clear HO151; clear HB; have HO151 := n0_; have HO155 := n1_; have HB := n2_; clear n0_ n1_ n2_; (try clear hb); (try clear hb2); (try clear hk); (try clear hi); (try clear ho0); obtain ⟨Ao28, co28, eo28⟩ := Kd.R_slice HO155.out; subst eo28) | ((with_reducible refine gate_callee (f := 10) rfl ?_); refine goesL_ (some 19) rfl rfl Tryd.func10 (by kernel_rfl) rfl #[.slice Ao28 t153.length co28, .int .i64 1] rfl (by (try simp only [List.map_toArray, List.map_cons, List.map_nil]); first | done | rfl | (simp only [List.length_drop, List.length_take]; rfl)) ?_; (with_reducible refine (dead_Find.calls k _ _ t153 1 t157 t158 t159 t160 t163 t166 false _ ?side1 ?side2 A3.out).mono ?_); (case side1 => repeat (first | exact (Kd.R_reads' HO155.out).2.2 | (with_reducible refine Kd.C_alloc ?_ _) | (with_reducible refine Kd.C_drewN ?_ _) | (with_reducible refine Kd.C_drew ?_))); (case side2 => exact (Kd.R_reads' HO155.out).2.1); rintro e w29 ⟨v161, v164, rfl, ho0, ho1, hb⟩; refine ⟨_, rfl, ?_⟩; have n0_ := Aside0.mk (Kd.R_mono (Kd.R_told (Kd.R_told (Kd.R_old (by (with_reducible repeat (first | apply Kd.R_alloc | apply Kd.R_drewN | apply Kd.R_drew)); exact HO151.out) hb) (Kd.S_base ho0)) (Kd.S_base ho1)) (fun _ h_ => h_.1)); have n1_ := Aside0.mk (Kd.R_mono (Kd.R_told (Kd.R_told (Kd.R_old (by (with_reducible repeat (first | apply Kd.R_alloc | apply Kd.R_drewN | apply Kd.R_drew)); exact HO155.out) hb) (Kd.S_base ho0)) (Kd.S_base ho1)) (fun _ h_ => h_.1)); have n2_ := Aside0.mk (Kd.S_lower ho0 (below_size (by repeat (first | (with_reducible first | exact HB.out | apply below_alloc | apply pw_below_drewN | apply below_drew1) | exact HB.out)))); have n3_ := Aside0.mk (Kd.S_lower ho1 (below_size (by repeat (first | (with_reducible first | exact HB.out | apply below_alloc | apply pw_below_drewN | apply below_drew1) | exact HB.out)))); have n4_ := Aside0.mk (below_step (by repeat (first | (with_reducible first | exact HB.out | apply below_alloc | apply pw_below_drewN | apply below_drew1) | exact HB.out)) hb); clear HO151; clear HO155; clear HB; have HO151 := n0_; have HO155 := n1_; have HO162 := n2_; have HO165 := n3_; have HB := n4_; clear n0_ n1_ n2_ n3_ n4_; (try clear hb); (try clear hb2); (try clear hk); (try clear hi); (try clear ho0); (try clear ho1)) | ((with_reducible refine gate_dst (N := 5) rfl ?_); refine box_event ?hg (N := 5) ?hd (cs := #[.int .i64 0, .int .i64 0, .string (⟨#[]⟩ : ByteArray), .slice none 0 0, .slice none 0 0, .int .i64 0]) (t := 27) ?hr ?_; (case hd => rfl); (case hg => rfl); (case hr => first | (go_simp; done) | (go_simp; rfl)); intro gb168 hg w30 hbox hb; have n0_ := Aside0.mk (Kd.R_below (Kd.R_elderB (by (with_reducible repeat (first | apply Kd.R_alloc | apply Kd.R_drewN | apply Kd.R_drew)); exact HO151.out) gb168 (Nat.le_of_eq hg.symm)) hb); have n1_ := Aside0.mk (Kd.R_below (Kd.R_elderB (by (with_reducible repeat (first | apply Kd.R_alloc | apply Kd.R_drewN | apply Kd.R_drew)); exact HO155.out) gb168 (Nat.le_of_eq hg.symm)) hb); have n2_ := Aside0.mk (Kd.S_below (by (with_reducible repeat (first | apply Kd.S_alloc | apply Kd.S_drewN | apply Kd.S_drew)); exact HO162.out) hb); have n3_ := Aside0.mk (Kd.S_below (by (with_reducible repeat (first | apply Kd.S_alloc | apply Kd.S_drewN | apply Kd.S_drew)); exact HO165.out) hb); have n4_ := Aside0.mk (below_step (by repeat (first | (with_reducible first | exact HB.out | apply below_alloc | apply pw_below_drewN | apply below_drew1) | exact HB.out)) hb); have n5_ := Aside0.mk (hbox); have n6_ := Aside0.mk ((by rw [hg]; exact (below_size (by repeat (first | (with_reducible first | exact HB.out | apply below_alloc | apply pw_below_drewN | apply below_drew1) | exact HB.out))) : w.heap.size ≤ gb168)); have n7_ := Aside0.mk ((by rw [hg]; exact (below_size (by repeat (first | (with_reducible first | exact HB.out | apply below_alloc | apply pw_below_drewN | apply below_drew1) | exact HB.out))) : w.heap.size ≤ gb168)); clear HO151; clear HO155; clear HO162; clear HO165; clear HB; have HO151 := n0_; have HO155 := n1_; have HO162 := n2_; have HO165 := n3_; have HB := n4_; have BK168 := n5_; have GW168 := n6_; have GE168 := n7_; clear n0_ n1_ n2_ n3_ n4_ n5_ n6_ n7_; clear hb hbox hg; have hcz31_0 : w30.cell? ⟨gb168, 0, none⟩ = some (.int .i64 0) := (blk_cell BK168.out 0).trans rfl; have hcz31_1 : w30.cell? ⟨gb168, 1, none⟩ = some (.int .i64 0) := (blk_cell BK168.out 1).trans rfl; have hcz31_2 : w30.cell? ⟨gb168, 2, none⟩ = some (.string (⟨#[]⟩ : ByteArray)) := (blk_cell BK168.out 2).trans rfl; have hcz31_3 : w30.cell? ⟨gb168, 3, none⟩ = some (.slice none 0 0) := (blk_cell BK168.out 3).trans rfl; have hcz31_4 : w30.cell? ⟨gb168, 4, none⟩ = some (.slice none 0 0) := (blk_cell BK168.out 4).trans rfl; have hcz31_5 : w30.cell? ⟨gb168, 5, none⟩ = some (.int .i64 0) := (blk_cell BK168.out 5).trans rfl; have hfz31_0 := blk_frozen BK168.out 0; have hfz31_1 := blk_frozen BK168.out 1; have hfz31_2 := blk_frozen BK168.out 2; have hfz31_3 := blk_frozen BK168.out 3; have hfz31_4 := blk_frozen BK168.out 4; have hfz31_5 := blk_frozen BK168.out 5; obtain ⟨Ao32, co32, eo32⟩ := Kd.S_slice HO162.out; subst eo32; obtain ⟨Ao33, co33, eo33⟩ := Kd.S_slice HO165.out; subst eo33))
        go_ret
        exact ⟨by first | rfl | (simp [errW_none, errW_some] <;> rfl) | (simp [*, errW_none, errW_some] <;> rfl), by repeat (first | (with_reducible first | exact HB.out | apply below_alloc | apply pw_below_drewN | apply below_drew1 | refine below_set ?_ GE168.out) | exact HB.out)⟩
    · rw [if_neg c5] at H
      have c5b0 : (t156 == 0) = false := beq_eq_false_iff_ne.mpr c5
      have c5b1 : (t156 != 0) = true := bne_iff_ne.mpr c5
      obtain rfl := Option.some.inj H
      go_enter Tryd.func7, Tryd.ntmps7
      go_wp2_with (first | ((with_reducible refine gate_callee (f := 9) rfl ?_); refine goesL_ (some 9) rfl rfl Tryd.func9 (by kernel_rfl) rfl #[.slice none 0 0, .int .i64 1, .agg #[.int .i64 0, .string (⟨#[]⟩ : ByteArray), .slice none 0 0, .slice none 0 0], .int .i64 5, .int .i64 0] rfl (by (try simp only [List.map_toArray, List.map_cons, List.map_nil]); first | done | rfl | (simp only [List.length_drop, List.length_take]; rfl)) ?_; (refine (dead_Put.calls k _ _ ([] : List (S27)) 1 0 (⟨#[]⟩ : ByteArray) _ _ ([] : List (S37)) _ _ ([] : List (S37)) 5 0 t149 t152 _ ?side1 ?side2 ?side3 ?side4 ?side5 ?side6 A1.out (Tabs.below HT.out (by repeat (first | (with_reducible first | exact HB.out | apply below_alloc | apply pw_below_drewN | apply below_drew1) | exact HB.out)))).mono ?_); (case side1 => exact Kd.C_nil _ _); (case side2 => exact Nat.le_refl _); (case side3 => exact Kd.C_nil _ _); (case side4 => exact Nat.le_refl _); (case side5 => exact Kd.C_nil _ _); (case side6 => exact Nat.le_refl _); rintro e w34 ⟨v150, rfl, ho0, hb⟩; refine ⟨_, rfl, ?_⟩; have n0_ := Aside0.mk (Kd.R_lower ho0 (below_size (by repeat (first | (with_reducible first | exact HB.out | apply below_alloc | apply pw_below_drewN | apply below_drew1) | exact HB.out)))); have n1_ := Aside0.mk (below_step (by repeat (first | (with_reducible first | exact HB.out | apply below_alloc | apply pw_below_drewN | apply below_drew1) | exact HB.out)) hb); clear HB; have HO151 := n0_; have HB := n1_; clear n0_ n1_; (try clear hb); (try clear hb2); (try clear hk); (try clear hi); (try clear ho0)) | ((with_reducible refine gate_callee (f := 9) rfl ?_); refine goesL_ (some 14) rfl rfl Tryd.func9 (by kernel_rfl) rfl #[.slice none 0 0, .int .i64 1, .agg #[.int .i64 9, .string (⟨#[]⟩ : ByteArray), .slice none 0 0, .slice none 0 0], .int .i64 5, .int .i64 1] rfl (by (try simp only [List.map_toArray, List.map_cons, List.map_nil]); first | done | rfl | (simp only [List.length_drop, List.length_take]; rfl)) ?_; (refine (dead_Put.calls k _ _ ([] : List (S27)) 1 9 (⟨#[]⟩ : ByteArray) _ _ ([] : List (S37)) _ _ ([] : List (S37)) 5 1 t153 t156 _ ?side1 ?side2 ?side3 ?side4 ?side5 ?side6 A2.out (Tabs.below HT.out (by repeat (first | (with_reducible first | exact HB.out | apply below_alloc | apply pw_below_drewN | apply below_drew1) | exact HB.out)))).mono ?_); (case side1 => exact Kd.C_nil _ _); (case side2 => exact Nat.le_refl _); (case side3 => exact Kd.C_nil _ _); (case side4 => exact Nat.le_refl _); (case side5 => exact Kd.C_nil _ _); (case side6 => exact Nat.le_refl _); rintro e w35 ⟨v154, rfl, ho0, hb⟩; refine ⟨_, rfl, ?_⟩; have n0_ := Aside0.mk (Kd.R_elder' (by (with_reducible repeat (first | apply Kd.R_alloc | apply Kd.R_drewN | apply Kd.R_drew)); exact HO151.out) (Kd.R_base ho0) hb); have n1_ := Aside0.mk (Kd.R_lower (Kd.R_new' ho0 (Kd.R_lt (by (with_reducible repeat (first | apply Kd.R_alloc | apply Kd.R_drewN | apply Kd.R_drew)); exact HO151.out))) (below_size (by repeat (first | (with_reducible first | exact HB.out | apply below_alloc | apply pw_below_drewN | apply below_drew1) | exact HB.out)))); have n2_ := Aside0.mk (below_step (by repeat (first | (with_reducible first | exact HB.out | apply below_alloc | apply pw_below_drewN | apply below_drew1) | exact HB.out)) hb); clear HO151; clear HB; have HO151 := n0_; have HO155 := n1_; have HB := n2_; clear n0_ n1_ n2_; (try clear hb); (try clear hb2); (try clear hk); (try clear hi); (try clear ho0); obtain ⟨Ao36, co36, eo36⟩ := Kd.R_slice HO155.out; subst eo36) | ((with_reducible refine gate_callee (f := 10) rfl ?_); refine goesL_ (some 19) rfl rfl Tryd.func10 (by kernel_rfl) rfl #[.slice Ao36 t153.length co36, .int .i64 1] rfl (by (try simp only [List.map_toArray, List.map_cons, List.map_nil]); first | done | rfl | (simp only [List.length_drop, List.length_take]; rfl)) ?_; (with_reducible refine (dead_Find.calls k _ _ t153 1 t157 t158 t159 t160 t163 t166 t167 _ ?side1 ?side2 A3.out).mono ?_); (case side1 => repeat (first | exact (Kd.R_reads' HO155.out).2.2 | (with_reducible refine Kd.C_alloc ?_ _) | (with_reducible refine Kd.C_drewN ?_ _) | (with_reducible refine Kd.C_drew ?_))); (case side2 => exact (Kd.R_reads' HO155.out).2.1); rintro e w37 ⟨v161, v164, rfl, ho0, ho1, hb⟩; refine ⟨_, rfl, ?_⟩; have n0_ := Aside0.mk (Kd.R_mono (Kd.R_told (Kd.R_told (Kd.R_old (by (with_reducible repeat (first | apply Kd.R_alloc | apply Kd.R_drewN | apply Kd.R_drew)); exact HO151.out) hb) (Kd.S_base ho0)) (Kd.S_base ho1)) (fun _ h_ => h_.1)); have n1_ := Aside0.mk (Kd.R_mono (Kd.R_told (Kd.R_told (Kd.R_old (by (with_reducible repeat (first | apply Kd.R_alloc | apply Kd.R_drewN | apply Kd.R_drew)); exact HO155.out) hb) (Kd.S_base ho0)) (Kd.S_base ho1)) (fun _ h_ => h_.1)); have n2_ := Aside0.mk (Kd.S_lower ho0 (below_size (by repeat (first | (with_reducible first | exact HB.out | apply below_alloc | apply pw_below_drewN | apply below_drew1) | exact HB.out)))); have n3_ := Aside0.mk (Kd.S_lower ho1 (below_size (by repeat (first | (with_reducible first | exact HB.out | apply below_alloc | apply pw_below_drewN | apply below_drew1) | exact HB.out)))); have n4_ := Aside0.mk (below_step (by repeat (first | (with_reducible first | exact HB.out | apply below_alloc | apply pw_below_drewN | apply below_drew1) | exact HB.out)) hb); clear HO151; clear HO155; clear HB; have HO151 := n0_; have HO155 := n1_; have HO162 := n2_; have HO165 := n3_; have HB := n4_; clear n0_ n1_ n2_ n3_ n4_; (try clear hb); (try clear hb2); (try clear hk); (try clear hi); (try clear ho0); (try clear ho1)) | ((with_reducible refine gate_dst (N := 5) rfl ?_); refine box_event ?hg (N := 5) ?hd (cs := #[.int .i64 0, .int .i64 0, .string (⟨#[]⟩ : ByteArray), .slice none 0 0, .slice none 0 0, .int .i64 0]) (t := 27) ?hr ?_; (case hd => rfl); (case hg => rfl); (case hr => first | (go_simp; done) | (go_simp; rfl)); intro gb168 hg w38 hbox hb; have n0_ := Aside0.mk (Kd.R_below (Kd.R_elderB (by (with_reducible repeat (first | apply Kd.R_alloc | apply Kd.R_drewN | apply Kd.R_drew)); exact HO151.out) gb168 (Nat.le_of_eq hg.symm)) hb); have n1_ := Aside0.mk (Kd.R_below (Kd.R_elderB (by (with_reducible repeat (first | apply Kd.R_alloc | apply Kd.R_drewN | apply Kd.R_drew)); exact HO155.out) gb168 (Nat.le_of_eq hg.symm)) hb); have n2_ := Aside0.mk (Kd.S_below (by (with_reducible repeat (first | apply Kd.S_alloc | apply Kd.S_drewN | apply Kd.S_drew)); exact HO162.out) hb); have n3_ := Aside0.mk (Kd.S_below (by (with_reducible repeat (first | apply Kd.S_alloc | apply Kd.S_drewN | apply Kd.S_drew)); exact HO165.out) hb); have n4_ := Aside0.mk (below_step (by repeat (first | (with_reducible first | exact HB.out | apply below_alloc | apply pw_below_drewN | apply below_drew1) | exact HB.out)) hb); have n5_ := Aside0.mk (hbox); have n6_ := Aside0.mk ((by rw [hg]; exact (below_size (by repeat (first | (with_reducible first | exact HB.out | apply below_alloc | apply pw_below_drewN | apply below_drew1) | exact HB.out))) : w.heap.size ≤ gb168)); have n7_ := Aside0.mk ((by rw [hg]; exact (below_size (by repeat (first | (with_reducible first | exact HB.out | apply below_alloc | apply pw_below_drewN | apply below_drew1) | exact HB.out))) : w.heap.size ≤ gb168)); clear HO151; clear HO155; clear HO162; clear HO165; clear HB; have HO151 := n0_; have HO155 := n1_; have HO162 := n2_; have HO165 := n3_; have HB := n4_; have BK168 := n5_; have GW168 := n6_; have GE168 := n7_; clear n0_ n1_ n2_ n3_ n4_ n5_ n6_ n7_; clear hb hbox hg; have hcz39_0 : w38.cell? ⟨gb168, 0, none⟩ = some (.int .i64 0) := (blk_cell BK168.out 0).trans rfl; have hcz39_1 : w38.cell? ⟨gb168, 1, none⟩ = some (.int .i64 0) := (blk_cell BK168.out 1).trans rfl; have hcz39_2 : w38.cell? ⟨gb168, 2, none⟩ = some (.string (⟨#[]⟩ : ByteArray)) := (blk_cell BK168.out 2).trans rfl; have hcz39_3 : w38.cell? ⟨gb168, 3, none⟩ = some (.slice none 0 0) := (blk_cell BK168.out 3).trans rfl; have hcz39_4 : w38.cell? ⟨gb168, 4, none⟩ = some (.slice none 0 0) := (blk_cell BK168.out 4).trans rfl; have hcz39_5 : w38.cell? ⟨gb168, 5, none⟩ = some (.int .i64 0) := (blk_cell BK168.out 5).trans rfl; have hfz39_0 := blk_frozen BK168.out 0; have hfz39_1 := blk_frozen BK168.out 1; have hfz39_2 := blk_frozen BK168.out 2; have hfz39_3 := blk_frozen BK168.out 3; have hfz39_4 := blk_frozen BK168.out 4; have hfz39_5 := blk_frozen BK168.out 5; obtain ⟨Ao40, co40, eo40⟩ := Kd.S_slice HO162.out; subst eo40; obtain ⟨Ao41, co41, eo41⟩ := Kd.S_slice HO165.out; subst eo41))
      go_ret
      exact ⟨by first | rfl | (simp [errW_none, errW_some] <;> rfl) | (simp [*, errW_none, errW_some] <;> rfl), by repeat (first | (with_reducible first | exact HB.out | apply below_alloc | apply pw_below_drewN | apply below_drew1 | refine below_set ?_ GE168.out) | exact HB.out)⟩
  · rw [if_neg c4] at H
    have c4b0 : (t152 == 42) = false := beq_eq_false_iff_ne.mpr c4
    have c4b1 : (t152 != 42) = true := bne_iff_ne.mpr c4
    obtain rfl := Option.some.inj H
    go_enter Tryd.func7, Tryd.ntmps7
    go_wp2_with (first | ((with_reducible refine gate_callee (f := 9) rfl ?_); refine goesL_ (some 9) rfl rfl Tryd.func9 (by kernel_rfl) rfl #[.slice none 0 0, .int .i64 1, .agg #[.int .i64 0, .string (⟨#[]⟩ : ByteArray), .slice none 0 0, .slice none 0 0], .int .i64 5, .int .i64 0] rfl (by (try simp only [List.map_toArray, List.map_cons, List.map_nil]); first | done | rfl | (simp only [List.length_drop, List.length_take]; rfl)) ?_; (refine (dead_Put.calls k _ _ ([] : List (S27)) 1 0 (⟨#[]⟩ : ByteArray) _ _ ([] : List (S37)) _ _ ([] : List (S37)) 5 0 t149 t152 _ ?side1 ?side2 ?side3 ?side4 ?side5 ?side6 A1.out (Tabs.below HT.out (by repeat (first | (with_reducible first | exact HB.out | apply below_alloc | apply pw_below_drewN | apply below_drew1) | exact HB.out)))).mono ?_); (case side1 => exact Kd.C_nil _ _); (case side2 => exact Nat.le_refl _); (case side3 => exact Kd.C_nil _ _); (case side4 => exact Nat.le_refl _); (case side5 => exact Kd.C_nil _ _); (case side6 => exact Nat.le_refl _); rintro e w42 ⟨v150, rfl, ho0, hb⟩; refine ⟨_, rfl, ?_⟩; have n0_ := Aside0.mk (Kd.R_lower ho0 (below_size (by repeat (first | (with_reducible first | exact HB.out | apply below_alloc | apply pw_below_drewN | apply below_drew1) | exact HB.out)))); have n1_ := Aside0.mk (below_step (by repeat (first | (with_reducible first | exact HB.out | apply below_alloc | apply pw_below_drewN | apply below_drew1) | exact HB.out)) hb); clear HB; have HO151 := n0_; have HB := n1_; clear n0_ n1_; (try clear hb); (try clear hb2); (try clear hk); (try clear hi); (try clear ho0)) | ((with_reducible refine gate_callee (f := 9) rfl ?_); refine goesL_ (some 14) rfl rfl Tryd.func9 (by kernel_rfl) rfl #[.slice none 0 0, .int .i64 1, .agg #[.int .i64 9, .string (⟨#[]⟩ : ByteArray), .slice none 0 0, .slice none 0 0], .int .i64 5, .int .i64 1] rfl (by (try simp only [List.map_toArray, List.map_cons, List.map_nil]); first | done | rfl | (simp only [List.length_drop, List.length_take]; rfl)) ?_; (refine (dead_Put.calls k _ _ ([] : List (S27)) 1 9 (⟨#[]⟩ : ByteArray) _ _ ([] : List (S37)) _ _ ([] : List (S37)) 5 1 t153 t156 _ ?side1 ?side2 ?side3 ?side4 ?side5 ?side6 A2.out (Tabs.below HT.out (by repeat (first | (with_reducible first | exact HB.out | apply below_alloc | apply pw_below_drewN | apply below_drew1) | exact HB.out)))).mono ?_); (case side1 => exact Kd.C_nil _ _); (case side2 => exact Nat.le_refl _); (case side3 => exact Kd.C_nil _ _); (case side4 => exact Nat.le_refl _); (case side5 => exact Kd.C_nil _ _); (case side6 => exact Nat.le_refl _); rintro e w43 ⟨v154, rfl, ho0, hb⟩; refine ⟨_, rfl, ?_⟩; have n0_ := Aside0.mk (Kd.R_elder' (by (with_reducible repeat (first | apply Kd.R_alloc | apply Kd.R_drewN | apply Kd.R_drew)); exact HO151.out) (Kd.R_base ho0) hb); have n1_ := Aside0.mk (Kd.R_lower (Kd.R_new' ho0 (Kd.R_lt (by (with_reducible repeat (first | apply Kd.R_alloc | apply Kd.R_drewN | apply Kd.R_drew)); exact HO151.out))) (below_size (by repeat (first | (with_reducible first | exact HB.out | apply below_alloc | apply pw_below_drewN | apply below_drew1) | exact HB.out)))); have n2_ := Aside0.mk (below_step (by repeat (first | (with_reducible first | exact HB.out | apply below_alloc | apply pw_below_drewN | apply below_drew1) | exact HB.out)) hb); clear HO151; clear HB; have HO151 := n0_; have HO155 := n1_; have HB := n2_; clear n0_ n1_ n2_; (try clear hb); (try clear hb2); (try clear hk); (try clear hi); (try clear ho0); obtain ⟨Ao44, co44, eo44⟩ := Kd.R_slice HO155.out; subst eo44) | ((with_reducible refine gate_callee (f := 10) rfl ?_); refine goesL_ (some 19) rfl rfl Tryd.func10 (by kernel_rfl) rfl #[.slice Ao44 t153.length co44, .int .i64 1] rfl (by (try simp only [List.map_toArray, List.map_cons, List.map_nil]); first | done | rfl | (simp only [List.length_drop, List.length_take]; rfl)) ?_; (with_reducible refine (dead_Find.calls k _ _ t153 1 t157 t158 t159 t160 t163 t166 t167 _ ?side1 ?side2 A3.out).mono ?_); (case side1 => repeat (first | exact (Kd.R_reads' HO155.out).2.2 | (with_reducible refine Kd.C_alloc ?_ _) | (with_reducible refine Kd.C_drewN ?_ _) | (with_reducible refine Kd.C_drew ?_))); (case side2 => exact (Kd.R_reads' HO155.out).2.1); rintro e w45 ⟨v161, v164, rfl, ho0, ho1, hb⟩; refine ⟨_, rfl, ?_⟩; have n0_ := Aside0.mk (Kd.R_mono (Kd.R_told (Kd.R_told (Kd.R_old (by (with_reducible repeat (first | apply Kd.R_alloc | apply Kd.R_drewN | apply Kd.R_drew)); exact HO151.out) hb) (Kd.S_base ho0)) (Kd.S_base ho1)) (fun _ h_ => h_.1)); have n1_ := Aside0.mk (Kd.R_mono (Kd.R_told (Kd.R_told (Kd.R_old (by (with_reducible repeat (first | apply Kd.R_alloc | apply Kd.R_drewN | apply Kd.R_drew)); exact HO155.out) hb) (Kd.S_base ho0)) (Kd.S_base ho1)) (fun _ h_ => h_.1)); have n2_ := Aside0.mk (Kd.S_lower ho0 (below_size (by repeat (first | (with_reducible first | exact HB.out | apply below_alloc | apply pw_below_drewN | apply below_drew1) | exact HB.out)))); have n3_ := Aside0.mk (Kd.S_lower ho1 (below_size (by repeat (first | (with_reducible first | exact HB.out | apply below_alloc | apply pw_below_drewN | apply below_drew1) | exact HB.out)))); have n4_ := Aside0.mk (below_step (by repeat (first | (with_reducible first | exact HB.out | apply below_alloc | apply pw_below_drewN | apply below_drew1) | exact HB.out)) hb); clear HO151; clear HO155; clear HB; have HO151 := n0_; have HO155 := n1_; have HO162 := n2_; have HO165 := n3_; have HB := n4_; clear n0_ n1_ n2_ n3_ n4_; (try clear hb); (try clear hb2); (try clear hk); (try clear hi); (try clear ho0); (try clear ho1)) | ((with_reducible refine gate_dst (N := 5) rfl ?_); refine box_event ?hg (N := 5) ?hd (cs := #[.int .i64 0, .int .i64 0, .string (⟨#[]⟩ : ByteArray), .slice none 0 0, .slice none 0 0, .int .i64 0]) (t := 27) ?hr ?_; (case hd => rfl); (case hg => rfl); (case hr => first | (go_simp; done) | (go_simp; rfl)); intro gb168 hg w46 hbox hb; have n0_ := Aside0.mk (Kd.R_below (Kd.R_elderB (by (with_reducible repeat (first | apply Kd.R_alloc | apply Kd.R_drewN | apply Kd.R_drew)); exact HO151.out) gb168 (Nat.le_of_eq hg.symm)) hb); have n1_ := Aside0.mk (Kd.R_below (Kd.R_elderB (by (with_reducible repeat (first | apply Kd.R_alloc | apply Kd.R_drewN | apply Kd.R_drew)); exact HO155.out) gb168 (Nat.le_of_eq hg.symm)) hb); have n2_ := Aside0.mk (Kd.S_below (by (with_reducible repeat (first | apply Kd.S_alloc | apply Kd.S_drewN | apply Kd.S_drew)); exact HO162.out) hb); have n3_ := Aside0.mk (Kd.S_below (by (with_reducible repeat (first | apply Kd.S_alloc | apply Kd.S_drewN | apply Kd.S_drew)); exact HO165.out) hb); have n4_ := Aside0.mk (below_step (by repeat (first | (with_reducible first | exact HB.out | apply below_alloc | apply pw_below_drewN | apply below_drew1) | exact HB.out)) hb); have n5_ := Aside0.mk (hbox); have n6_ := Aside0.mk ((by rw [hg]; exact (below_size (by repeat (first | (with_reducible first | exact HB.out | apply below_alloc | apply pw_below_drewN | apply below_drew1) | exact HB.out))) : w.heap.size ≤ gb168)); have n7_ := Aside0.mk ((by rw [hg]; exact (below_size (by repeat (first | (with_reducible first | exact HB.out | apply below_alloc | apply pw_below_drewN | apply below_drew1) | exact HB.out))) : w.heap.size ≤ gb168)); clear HO151; clear HO155; clear HO162; clear HO165; clear HB; have HO151 := n0_; have HO155 := n1_; have HO162 := n2_; have HO165 := n3_; have HB := n4_; have BK168 := n5_; have GW168 := n6_; have GE168 := n7_; clear n0_ n1_ n2_ n3_ n4_ n5_ n6_ n7_; clear hb hbox hg; have hcz47_0 : w46.cell? ⟨gb168, 0, none⟩ = some (.int .i64 0) := (blk_cell BK168.out 0).trans rfl; have hcz47_1 : w46.cell? ⟨gb168, 1, none⟩ = some (.int .i64 0) := (blk_cell BK168.out 1).trans rfl; have hcz47_2 : w46.cell? ⟨gb168, 2, none⟩ = some (.string (⟨#[]⟩ : ByteArray)) := (blk_cell BK168.out 2).trans rfl; have hcz47_3 : w46.cell? ⟨gb168, 3, none⟩ = some (.slice none 0 0) := (blk_cell BK168.out 3).trans rfl; have hcz47_4 : w46.cell? ⟨gb168, 4, none⟩ = some (.slice none 0 0) := (blk_cell BK168.out 4).trans rfl; have hcz47_5 : w46.cell? ⟨gb168, 5, none⟩ = some (.int .i64 0) := (blk_cell BK168.out 5).trans rfl; have hfz47_0 := blk_frozen BK168.out 0; have hfz47_1 := blk_frozen BK168.out 1; have hfz47_2 := blk_frozen BK168.out 2; have hfz47_3 := blk_frozen BK168.out 3; have hfz47_4 := blk_frozen BK168.out 4; have hfz47_5 := blk_frozen BK168.out 5; obtain ⟨Ao48, co48, eo48⟩ := Kd.S_slice HO162.out; subst eo48; obtain ⟨Ao49, co49, eo49⟩ := Kd.S_slice HO165.out; subst eo49))
    go_ret
    exact ⟨by first | rfl | (simp [errW_none, errW_some] <;> rfl) | (simp [*, errW_none, errW_some] <;> rfl), by repeat (first | (with_reducible first | exact HB.out | apply below_alloc | apply pw_below_drewN | apply below_drew1 | refine below_set ?_ GE168.out) | exact HB.out)⟩
def switchyardlaw19_small.l0 : Nat → List (S27) → List (S27) → Int → Int → Option (Bool)
  | 0, _, _, _, _ => none
  | k + 1, x0, x5, x6, x7 => if x7 < x6 then (if 0 ≤ x7 then (if x7 < (x5.length : Int) then (if (x0.length : Int) > 100 then (some false) else (if (((rd_T27 x5 x7).f1.f2).length : Int) > 30 then (some false) else (if (((rd_T27 x5 x7).f1.f3).length : Int) > 30 then (some false) else (switchyardlaw19_small.l0 k x0 x5 x6 (wrap64 (x7 + 1)))))) else (none)) else (none)) else (some true)
def switchyardlaw19_small.f (k : Nat) (l0 : List (S27)) : Option (Bool) := switchyardlaw19_small.l0 k l0 l0 (l0.length : Int) 0
set_option maxHeartbeats 600000 in
set_option maxRecDepth 100000 in
theorem switchyardlaw19_small.calls (k : Nat) (A0 : Option Addr) (c0 : Nat) (l0 : List (S27)) (r : Bool) (w : World) (hr0 : Kd.C k27 w A0 l0.length l0) (hc0 : l0.length ≤ c0) (h : switchyardlaw19_small.f k l0 = some r) :
    Calls Tryd.prog 8 #[.slice A0 l0.length c0] w fun e w' => e = .returned (.bool r) ∧ Below w.heap.size w w' := by
  have hu27 := Tryd.underlying27
  have HR0 := Aside0.mk hr0
  have HC0 := Aside0.mk hc0
  clear hr0 hc0
  have HB := Aside0.mk (Below.refl w.heap.size w)
  have H : (switchyardlaw19_small.l0 k l0 l0 (l0.length : Int) 0) = some r := h
  clear h
  have H' := Aside0.mk H
  clear H
  go_enter Tryd.func8, Tryd.ntmps8
  go_wp2
  go_loopg [7] k (fun kq v7 w' => ∃ (x7_1 : Int), v7 = .int .i64 x7_1 ∧ Aside0 (switchyardlaw19_small.l0 kq l0 l0 (l0.length : Int) x7_1 = some r) ∧ Aside0 (kq ≤ k) ∧ Aside0 (Below w.heap.size w w'))
  case atStart => exact ⟨(0), (by first | rfl | (simp; done) | (simp [*]; done)), H', ⟨Nat.le_refl _⟩, ⟨by repeat (first | (with_reducible first | exact HB.out | apply below_alloc | apply pw_below_drewN | apply below_drew1) | exact HB.out)⟩⟩
  case round =>
    clear H'
    obtain ⟨x7_1, rfl, HA, HK1, HB⟩ := hrel
    cases gk with
    | zero => exact absurd HA.out (by simp [switchyardlaw19_small.l0])
    | succ k1 =>
      have H := HA.out
      clear HA
      simp only [switchyardlaw19_small.l0] at H
      by_cases c2 : x7_1 < (l0.length : Int)
      · rw [if_pos c2] at H
        have c2b0 : decide (x7_1 < (l0.length : Int)) = true := decide_eq_true c2
        clear c2
        by_cases c3 : 0 ≤ x7_1
        · rw [if_pos c3] at H
          have c3b0 : decide (0 ≤ x7_1) = true := decide_eq_true c3
          clear c3
          by_cases c4 : x7_1 < (l0.length : Int)
          · rw [if_pos c4] at H
            have c4b0 : decide (x7_1 < (l0.length : Int)) = true := decide_eq_true c4
            clear c4
            by_cases c5 : (l0.length : Int) > 100
            · rw [if_pos c5] at H
              have c5b0 : decide (100 < (l0.length : Int)) = true := decide_eq_true c5
              have c5b1 : decide (100 < l0.length) = true := decide_eq_true (by omega)
              clear c5
              obtain rfl := Option.some.inj H
              have p170 : 0 ≤ (x7_1 : Int) := of_decide_eq_true (by first | (with_reducible assumption) | assumption)
              have q170 : x7_1 < (l0.length : Int) := of_decide_eq_true (by first | (with_reducible assumption) | assumption)
              obtain ⟨ad170, A170_3, c170_3, A170_4, c170_4, e170, hx170_0, hx170_1, hx170_2, hx170_3, hx170_4, hx170_5, hl170_3, hi170_3, hl170_4, hi170_4⟩ := at_T27 HR0.out x7_1 p170 q170
              cases e170
              replace hx170_0 := (HB.out.cell (World.block_lt_of_cell? w _ hx170_0)).trans hx170_0
              replace hx170_1 := (HB.out.cell (World.block_lt_of_cell? w _ hx170_1)).trans hx170_1
              replace hx170_2 := (HB.out.cell (World.block_lt_of_cell? w _ hx170_2)).trans hx170_2
              replace hx170_3 := (HB.out.cell (World.block_lt_of_cell? w _ hx170_3)).trans hx170_3
              replace hx170_4 := (HB.out.cell (World.block_lt_of_cell? w _ hx170_4)).trans hx170_4
              replace hx170_5 := (HB.out.cell (World.block_lt_of_cell? w _ hx170_5)).trans hx170_5
              have HR170_3 := Aside0.mk hi170_3
              have HC170_3 := Aside0.mk hl170_3
              clear hi170_3 hl170_3
              have HR170_4 := Aside0.mk hi170_4
              have HC170_4 := Aside0.mk hl170_4
              clear hi170_4 hl170_4
              replace p170 := eq_true p170
              replace q170 := eq_true q170
              go_wp2_with (first | ((with_reducible refine gate_dst (N := 4) rfl ?_); (try (refine gate_guard (by rfl) ?_; dsimp only)); refine box_event ?hg (N := 4) ?hd (cs := #[.int .i64 0, .int .i64 0, .string (⟨#[]⟩ : ByteArray), .slice none 0 0, .slice none 0 0, .int .i64 0]) (t := 27) ?hr ?_; (case hd => rfl); (case hg => rfl); (case hr => first | (go_simp; done) | (go_simp; rfl)); intro gb171 hg w6 hbox hb; have n0_ := Aside0.mk (below_step (by repeat (first | (with_reducible first | exact HB.out | apply below_alloc | apply pw_below_drewN | apply below_drew1) | exact HB.out)) hb); have n1_ := Aside0.mk (hbox); have n2_ := Aside0.mk ((by rw [hg]; exact (below_size (by repeat (first | (with_reducible first | exact HB.out | apply below_alloc | apply pw_below_drewN | apply below_drew1) | exact HB.out))) : w.heap.size ≤ gb171)); have n3_ := Aside0.mk ((by rw [hg]; exact (below_size (by repeat (first | (with_reducible first | exact HB.out | apply below_alloc | apply pw_below_drewN | apply below_drew1) | exact HB.out))) : w.heap.size ≤ gb171)); clear HB; have HB := n0_; have BK171 := n1_; have GW171 := n2_; have GE171 := n3_; clear n0_ n1_ n2_ n3_; clear hb hbox hg; have hcz7_0 : w6.cell? ⟨gb171, 0, none⟩ = some (.int .i64 0) := (blk_cell BK171.out 0).trans rfl; have hcz7_1 : w6.cell? ⟨gb171, 1, none⟩ = some (.int .i64 0) := (blk_cell BK171.out 1).trans rfl; have hcz7_2 : w6.cell? ⟨gb171, 2, none⟩ = some (.string (⟨#[]⟩ : ByteArray)) := (blk_cell BK171.out 2).trans rfl; have hcz7_3 : w6.cell? ⟨gb171, 3, none⟩ = some (.slice none 0 0) := (blk_cell BK171.out 3).trans rfl; have hcz7_4 : w6.cell? ⟨gb171, 4, none⟩ = some (.slice none 0 0) := (blk_cell BK171.out 4).trans rfl; have hcz7_5 : w6.cell? ⟨gb171, 5, none⟩ = some (.int .i64 0) := (blk_cell BK171.out 5).trans rfl; have hfz7_0 := blk_frozen BK171.out 0; have hfz7_1 := blk_frozen BK171.out 1; have hfz7_2 := blk_frozen BK171.out 2; have hfz7_3 := blk_frozen BK171.out 3; have hfz7_4 := blk_frozen BK171.out 4; have hfz7_5 := blk_frozen BK171.out 5))
              go_ret
              exact ⟨by first | rfl | (simp [errW_none, errW_some] <;> rfl) | (simp [*, errW_none, errW_some] <;> rfl), by repeat (first | (with_reducible first | exact HB.out | apply below_alloc | apply pw_below_drewN | apply below_drew1 | refine below_set ?_ GE171.out) | exact HB.out)⟩
            · rw [if_neg c5] at H
              have c5b0 : decide (100 < (l0.length : Int)) = false := decide_eq_false c5
              have c5b1 : decide (100 < l0.length) = false := decide_eq_false (by omega)
              clear c5
              by_cases c8 : (((rd_T27 l0 x7_1).f1.f2).length : Int) > 30
              · rw [if_pos c8] at H
                have c8b0 : decide (30 < (((rd_T27 l0 x7_1).f1.f2).length : Int)) = true := decide_eq_true c8
                have c8b1 : decide (30 < ((rd_T27 l0 x7_1).f1.f2).length) = true := decide_eq_true (by omega)
                clear c8
                obtain rfl := Option.some.inj H
                have p170 : 0 ≤ (x7_1 : Int) := of_decide_eq_true (by first | (with_reducible assumption) | assumption)
                have q170 : x7_1 < (l0.length : Int) := of_decide_eq_true (by first | (with_reducible assumption) | assumption)
                obtain ⟨ad170, A170_3, c170_3, A170_4, c170_4, e170, hx170_0, hx170_1, hx170_2, hx170_3, hx170_4, hx170_5, hl170_3, hi170_3, hl170_4, hi170_4⟩ := at_T27 HR0.out x7_1 p170 q170
                cases e170
                replace hx170_0 := (HB.out.cell (World.block_lt_of_cell? w _ hx170_0)).trans hx170_0
                replace hx170_1 := (HB.out.cell (World.block_lt_of_cell? w _ hx170_1)).trans hx170_1
                replace hx170_2 := (HB.out.cell (World.block_lt_of_cell? w _ hx170_2)).trans hx170_2
                replace hx170_3 := (HB.out.cell (World.block_lt_of_cell? w _ hx170_3)).trans hx170_3
                replace hx170_4 := (HB.out.cell (World.block_lt_of_cell? w _ hx170_4)).trans hx170_4
                replace hx170_5 := (HB.out.cell (World.block_lt_of_cell? w _ hx170_5)).trans hx170_5
                have HR170_3 := Aside0.mk hi170_3
                have HC170_3 := Aside0.mk hl170_3
                clear hi170_3 hl170_3
                have HR170_4 := Aside0.mk hi170_4
                have HC170_4 := Aside0.mk hl170_4
                clear hi170_4 hl170_4
                replace p170 := eq_true p170
                replace q170 := eq_true q170
                go_wp2_with (first | ((with_reducible refine gate_dst (N := 4) rfl ?_); (try (refine gate_guard (by rfl) ?_; dsimp only)); refine box_event ?hg (N := 4) ?hd (cs := #[.int .i64 0, .int .i64 0, .string (⟨#[]⟩ : ByteArray), .slice none 0 0, .slice none 0 0, .int .i64 0]) (t := 27) ?hr ?_; (case hd => rfl); (case hg => rfl); (case hr => first | (go_simp; done) | (go_simp; rfl)); intro gb171 hg w9 hbox hb; have n0_ := Aside0.mk (below_step (by repeat (first | (with_reducible first | exact HB.out | apply below_alloc | apply pw_below_drewN | apply below_drew1) | exact HB.out)) hb); have n1_ := Aside0.mk (hbox); have n2_ := Aside0.mk ((by rw [hg]; exact (below_size (by repeat (first | (with_reducible first | exact HB.out | apply below_alloc | apply pw_below_drewN | apply below_drew1) | exact HB.out))) : w.heap.size ≤ gb171)); have n3_ := Aside0.mk ((by rw [hg]; exact (below_size (by repeat (first | (with_reducible first | exact HB.out | apply below_alloc | apply pw_below_drewN | apply below_drew1) | exact HB.out))) : w.heap.size ≤ gb171)); clear HB; have HB := n0_; have BK171 := n1_; have GW171 := n2_; have GE171 := n3_; clear n0_ n1_ n2_ n3_; clear hb hbox hg; have hcz10_0 : w9.cell? ⟨gb171, 0, none⟩ = some (.int .i64 0) := (blk_cell BK171.out 0).trans rfl; have hcz10_1 : w9.cell? ⟨gb171, 1, none⟩ = some (.int .i64 0) := (blk_cell BK171.out 1).trans rfl; have hcz10_2 : w9.cell? ⟨gb171, 2, none⟩ = some (.string (⟨#[]⟩ : ByteArray)) := (blk_cell BK171.out 2).trans rfl; have hcz10_3 : w9.cell? ⟨gb171, 3, none⟩ = some (.slice none 0 0) := (blk_cell BK171.out 3).trans rfl; have hcz10_4 : w9.cell? ⟨gb171, 4, none⟩ = some (.slice none 0 0) := (blk_cell BK171.out 4).trans rfl; have hcz10_5 : w9.cell? ⟨gb171, 5, none⟩ = some (.int .i64 0) := (blk_cell BK171.out 5).trans rfl; have hfz10_0 := blk_frozen BK171.out 0; have hfz10_1 := blk_frozen BK171.out 1; have hfz10_2 := blk_frozen BK171.out 2; have hfz10_3 := blk_frozen BK171.out 3; have hfz10_4 := blk_frozen BK171.out 4; have hfz10_5 := blk_frozen BK171.out 5))
                go_ret
                exact ⟨by first | rfl | (simp [errW_none, errW_some] <;> rfl) | (simp [*, errW_none, errW_some] <;> rfl), by repeat (first | (with_reducible first | exact HB.out | apply below_alloc | apply pw_below_drewN | apply below_drew1 | refine below_set ?_ GE171.out) | exact HB.out)⟩
              · rw [if_neg c8] at H
                have c8b0 : decide (30 < (((rd_T27 l0 x7_1).f1.f2).length : Int)) = false := decide_eq_false c8
                have c8b1 : decide (30 < ((rd_T27 l0 x7_1).f1.f2).length) = false := decide_eq_false (by omega)
                clear c8
                by_cases c11 : (((rd_T27 l0 x7_1).f1.f3).length : Int) > 30
                · rw [if_pos c11] at H
                  have c11b0 : decide (30 < (((rd_T27 l0 x7_1).f1.f3).length : Int)) = true := decide_eq_true c11
                  have c11b1 : decide (30 < ((rd_T27 l0 x7_1).f1.f3).length) = true := decide_eq_true (by omega)
                  clear c11
                  obtain rfl := Option.some.inj H
                  have p170 : 0 ≤ (x7_1 : Int) := of_decide_eq_true (by first | (with_reducible assumption) | assumption)
                  have q170 : x7_1 < (l0.length : Int) := of_decide_eq_true (by first | (with_reducible assumption) | assumption)
                  obtain ⟨ad170, A170_3, c170_3, A170_4, c170_4, e170, hx170_0, hx170_1, hx170_2, hx170_3, hx170_4, hx170_5, hl170_3, hi170_3, hl170_4, hi170_4⟩ := at_T27 HR0.out x7_1 p170 q170
                  cases e170
                  replace hx170_0 := (HB.out.cell (World.block_lt_of_cell? w _ hx170_0)).trans hx170_0
                  replace hx170_1 := (HB.out.cell (World.block_lt_of_cell? w _ hx170_1)).trans hx170_1
                  replace hx170_2 := (HB.out.cell (World.block_lt_of_cell? w _ hx170_2)).trans hx170_2
                  replace hx170_3 := (HB.out.cell (World.block_lt_of_cell? w _ hx170_3)).trans hx170_3
                  replace hx170_4 := (HB.out.cell (World.block_lt_of_cell? w _ hx170_4)).trans hx170_4
                  replace hx170_5 := (HB.out.cell (World.block_lt_of_cell? w _ hx170_5)).trans hx170_5
                  have HR170_3 := Aside0.mk hi170_3
                  have HC170_3 := Aside0.mk hl170_3
                  clear hi170_3 hl170_3
                  have HR170_4 := Aside0.mk hi170_4
                  have HC170_4 := Aside0.mk hl170_4
                  clear hi170_4 hl170_4
                  replace p170 := eq_true p170
                  replace q170 := eq_true q170
                  go_wp2_with (first | ((with_reducible refine gate_dst (N := 4) rfl ?_); (try (refine gate_guard (by rfl) ?_; dsimp only)); refine box_event ?hg (N := 4) ?hd (cs := #[.int .i64 0, .int .i64 0, .string (⟨#[]⟩ : ByteArray), .slice none 0 0, .slice none 0 0, .int .i64 0]) (t := 27) ?hr ?_; (case hd => rfl); (case hg => rfl); (case hr => first | (go_simp; done) | (go_simp; rfl)); intro gb171 hg w12 hbox hb; have n0_ := Aside0.mk (below_step (by repeat (first | (with_reducible first | exact HB.out | apply below_alloc | apply pw_below_drewN | apply below_drew1) | exact HB.out)) hb); have n1_ := Aside0.mk (hbox); have n2_ := Aside0.mk ((by rw [hg]; exact (below_size (by repeat (first | (with_reducible first | exact HB.out | apply below_alloc | apply pw_below_drewN | apply below_drew1) | exact HB.out))) : w.heap.size ≤ gb171)); have n3_ := Aside0.mk ((by rw [hg]; exact (below_size (by repeat (first | (with_reducible first | exact HB.out | apply below_alloc | apply pw_below_drewN | apply below_drew1) | exact HB.out))) : w.heap.size ≤ gb171)); clear HB; have HB := n0_; have BK171 := n1_; have GW171 := n2_; have GE171 := n3_; clear n0_ n1_ n2_ n3_; clear hb hbox hg; have hcz13_0 : w12.cell? ⟨gb171, 0, none⟩ = some (.int .i64 0) := (blk_cell BK171.out 0).trans rfl; have hcz13_1 : w12.cell? ⟨gb171, 1, none⟩ = some (.int .i64 0) := (blk_cell BK171.out 1).trans rfl; have hcz13_2 : w12.cell? ⟨gb171, 2, none⟩ = some (.string (⟨#[]⟩ : ByteArray)) := (blk_cell BK171.out 2).trans rfl; have hcz13_3 : w12.cell? ⟨gb171, 3, none⟩ = some (.slice none 0 0) := (blk_cell BK171.out 3).trans rfl; have hcz13_4 : w12.cell? ⟨gb171, 4, none⟩ = some (.slice none 0 0) := (blk_cell BK171.out 4).trans rfl; have hcz13_5 : w12.cell? ⟨gb171, 5, none⟩ = some (.int .i64 0) := (blk_cell BK171.out 5).trans rfl; have hfz13_0 := blk_frozen BK171.out 0; have hfz13_1 := blk_frozen BK171.out 1; have hfz13_2 := blk_frozen BK171.out 2; have hfz13_3 := blk_frozen BK171.out 3; have hfz13_4 := blk_frozen BK171.out 4; have hfz13_5 := blk_frozen BK171.out 5))
                  go_ret
                  exact ⟨by first | rfl | (simp [errW_none, errW_some] <;> rfl) | (simp [*, errW_none, errW_some] <;> rfl), by repeat (first | (with_reducible first | exact HB.out | apply below_alloc | apply pw_below_drewN | apply below_drew1 | refine below_set ?_ GE171.out) | exact HB.out)⟩
                · rw [if_neg c11] at H
                  have c11b0 : decide (30 < (((rd_T27 l0 x7_1).f1.f3).length : Int)) = false := decide_eq_false c11
                  have c11b1 : decide (30 < ((rd_T27 l0 x7_1).f1.f3).length) = false := decide_eq_false (by omega)
                  clear c11
                  have H' := Aside0.mk H
                  clear H
                  have p170 : 0 ≤ (x7_1 : Int) := of_decide_eq_true (by first | (with_reducible assumption) | assumption)
                  have q170 : x7_1 < (l0.length : Int) := of_decide_eq_true (by first | (with_reducible assumption) | assumption)
                  obtain ⟨ad170, A170_3, c170_3, A170_4, c170_4, e170, hx170_0, hx170_1, hx170_2, hx170_3, hx170_4, hx170_5, hl170_3, hi170_3, hl170_4, hi170_4⟩ := at_T27 HR0.out x7_1 p170 q170
                  cases e170
                  replace hx170_0 := (HB.out.cell (World.block_lt_of_cell? w _ hx170_0)).trans hx170_0
                  replace hx170_1 := (HB.out.cell (World.block_lt_of_cell? w _ hx170_1)).trans hx170_1
                  replace hx170_2 := (HB.out.cell (World.block_lt_of_cell? w _ hx170_2)).trans hx170_2
                  replace hx170_3 := (HB.out.cell (World.block_lt_of_cell? w _ hx170_3)).trans hx170_3
                  replace hx170_4 := (HB.out.cell (World.block_lt_of_cell? w _ hx170_4)).trans hx170_4
                  replace hx170_5 := (HB.out.cell (World.block_lt_of_cell? w _ hx170_5)).trans hx170_5
                  have HR170_3 := Aside0.mk hi170_3
                  have HC170_3 := Aside0.mk hl170_3
                  clear hi170_3 hl170_3
                  have HR170_4 := Aside0.mk hi170_4
                  have HC170_4 := Aside0.mk hl170_4
                  clear hi170_4 hl170_4
                  replace p170 := eq_true p170
                  replace q170 := eq_true q170
                  go_wp2_with (first | ((with_reducible refine gate_dst (N := 4) rfl ?_); (try (refine gate_guard (by rfl) ?_; dsimp only)); refine box_event ?hg (N := 4) ?hd (cs := #[.int .i64 0, .int .i64 0, .string (⟨#[]⟩ : ByteArray), .slice none 0 0, .slice none 0 0, .int .i64 0]) (t := 27) ?hr ?_; (case hd => rfl); (case hg => rfl); (case hr => first | (go_simp; done) | (go_simp; rfl)); intro gb171 hg w14 hbox hb; have n0_ := Aside0.mk (below_step (by repeat (first | (with_reducible first | exact HB.out | apply below_alloc | apply pw_below_drewN | apply below_drew1) | exact HB.out)) hb); have n1_ := Aside0.mk (hbox); have n2_ := Aside0.mk ((by rw [hg]; exact (below_size (by repeat (first | (with_reducible first | exact HB.out | apply below_alloc | apply pw_below_drewN | apply below_drew1) | exact HB.out))) : w.heap.size ≤ gb171)); have n3_ := Aside0.mk ((by rw [hg]; exact (below_size (by repeat (first | (with_reducible first | exact HB.out | apply below_alloc | apply pw_below_drewN | apply below_drew1) | exact HB.out))) : w.heap.size ≤ gb171)); clear HB; have HB := n0_; have BK171 := n1_; have GW171 := n2_; have GE171 := n3_; clear n0_ n1_ n2_ n3_; clear hb hbox hg; have hcz15_0 : w14.cell? ⟨gb171, 0, none⟩ = some (.int .i64 0) := (blk_cell BK171.out 0).trans rfl; have hcz15_1 : w14.cell? ⟨gb171, 1, none⟩ = some (.int .i64 0) := (blk_cell BK171.out 1).trans rfl; have hcz15_2 : w14.cell? ⟨gb171, 2, none⟩ = some (.string (⟨#[]⟩ : ByteArray)) := (blk_cell BK171.out 2).trans rfl; have hcz15_3 : w14.cell? ⟨gb171, 3, none⟩ = some (.slice none 0 0) := (blk_cell BK171.out 3).trans rfl; have hcz15_4 : w14.cell? ⟨gb171, 4, none⟩ = some (.slice none 0 0) := (blk_cell BK171.out 4).trans rfl; have hcz15_5 : w14.cell? ⟨gb171, 5, none⟩ = some (.int .i64 0) := (blk_cell BK171.out 5).trans rfl; have hfz15_0 := blk_frozen BK171.out 0; have hfz15_1 := blk_frozen BK171.out 1; have hfz15_2 := blk_frozen BK171.out 2; have hfz15_3 := blk_frozen BK171.out 3; have hfz15_4 := blk_frozen BK171.out 4; have hfz15_5 := blk_frozen BK171.out 5))
                  go_roundg k1
                  case measure => have := HK1.out; omega
                  case rel => exact ⟨(wrap64 (x7_1 + 1)), (by first | rfl | (simp; done) | (simp [*]; done)), H', ⟨by have := HK1.out; omega⟩, ⟨by repeat (first | (with_reducible first | exact HB.out | apply below_alloc | apply pw_below_drewN | apply below_drew1 | refine below_set ?_ GE171.out) | exact HB.out)⟩⟩
          · rw [if_neg c4] at H
            exact absurd H (by simp)
        · rw [if_neg c3] at H
          exact absurd H (by simp)
      · rw [if_neg c2] at H
        have c2b0 : decide (x7_1 < (l0.length : Int)) = false := decide_eq_false c2
        clear c2
        obtain rfl := Option.some.inj H
        go_wp2
        go_ret
        exact ⟨by first | rfl | (simp [errW_none, errW_some] <;> rfl) | (simp [*, errW_none, errW_some] <;> rfl), by repeat (first | (with_reducible first | exact HB.out | apply below_alloc | apply pw_below_drewN | apply below_drew1) | exact HB.out)⟩
end Go.Proofs.YtknbebjphjpgpaaDoor.XD
namespace Go.Proofs.YtknbebjphjpgpaaDoor.XD
open Go.RowKit Go.Proofs.YtknbebjphjpgpaaDoorW.PrintWords Go.Proofs.YtknbebjphjpgpaaDoorW.PrintLast Go.Proofs.YtknbebjphjpgpaaDoorW.PrintMore
attribute [local go_sem] max2_int min2_int max_two min_two max_three min_three max_four min_four   -- for this text's walks alone
set_option linter.unusedVariables false
set_option linter.unusedSimpArgs false
def switchyardlaw19_Same.l0 : Nat → List (S27) → List (S27) → Int → Int → Option (Bool)
  | 0, _, _, _, _ => none
  | k + 1, x0, x1, x12, x13 => if x13 < x12 then (if 0 ≤ x13 then (if x13 < (x0.length : Int) then (if x13 < (x1.length : Int) then ((switchyardref13_SameDead.f k ((rd_T27 x0 x13).f0) ((rd_T27 x0 x13).f1.f0) ((rd_T27 x0 x13).f1.f1) ((rd_T27 x0 x13).f1.f2) ((rd_T27 x0 x13).f1.f3) ((rd_T27 x0 x13).f2) ((rd_T27 x1 x13).f0) ((rd_T27 x1 x13).f1.f0) ((rd_T27 x1 x13).f1.f1) ((rd_T27 x1 x13).f1.f2) ((rd_T27 x1 x13).f1.f3) ((rd_T27 x1 x13).f2)).bind fun t188 => (if t188 = true then (switchyardlaw19_Same.l0 k x0 x1 x12 (wrap64 (x13 + 1))) else (some false))) else (none)) else (none)) else (none)) else (some true)
def switchyardlaw19_Same.f (k : Nat) (l0 : List (S27)) (l1 : List (S27)) : Option (Bool) := if (l0.length : Int) = (l1.length : Int) then (switchyardlaw19_Same.l0 k l0 l1 (l0.length : Int) 0) else (some false)
def switchyardlaw19_Same.T6 : Bool × List (List Nat × List Nat) := (true, [([], []), ([], []), ([0, 1], [0, 1]), ([2], [2]), ([], []), ([], []), ([4, 5], [4, 5]), ([6], [6]), ([3, 7], [3, 7]), ([8], [8])])
def switchyardlaw19_Same.B6 : List Nat := [0, 0, 3, 7, 0, 0, 48, 112, 255, 511]
theorem switchyardlaw19_Same.tab6 : rtab .any (opsOf Tryd.f11 6) = switchyardlaw19_Same.T6 := by kernel_rfl
theorem switchyardlaw19_Same.bits6 : waitsOk switchyardlaw19_Same.T6.2 switchyardlaw19_Same.B6 = true := by kernel_rfl
set_option maxHeartbeats 600000 in
set_option maxRecDepth 100000 in
theorem switchyardlaw19_Same.calls (k : Nat) (A0 : Option Addr) (c0 : Nat) (l0 : List (S27)) (A1 : Option Addr) (c1 : Nat) (l1 : List (S27)) (r : Bool) (w : World) (hr0 : Kd.C k27 w A0 l0.length l0) (hc0 : l0.length ≤ c0) (hr1 : Kd.C k27 w A1 l1.length l1) (hc1 : l1.length ≤ c1) (h : switchyardlaw19_Same.f k l0 l1 = some r) :
    Calls Tryd.prog 11 #[.slice A0 l0.length c0, .slice A1 l1.length c1] w fun e w' => e = .returned (.bool r) ∧ Below w.heap.size w w' := by
  have hu27 := Tryd.underlying27
  have HR0 := Aside0.mk hr0
  have HC0 := Aside0.mk hc0
  clear hr0 hc0
  have HR1 := Aside0.mk hr1
  have HC1 := Aside0.mk hc1
  clear hr1 hc1
  have HB := Aside0.mk (Below.refl w.heap.size w)
  have H : (if (l0.length : Int) = (l1.length : Int) then (switchyardlaw19_Same.l0 k l0 l1 (l0.length : Int) 0) else (some false)) = some r := h
  clear h
  by_cases c3 : (l0.length : Int) = (l1.length : Int)
  · rw [if_pos c3] at H
    have c3b0 : ((l0.length : Int) == (l1.length : Int)) = true := beq_iff_eq.mpr c3
    have c3b1 : ((l0.length : Int) != (l1.length : Int)) = false := bne_eq_false_iff_eq.mpr c3
    have c3b2 : (l0.length == l1.length) = true := by first | simpa using c3 | (simp at c3 ⊢; omega)
    clear c3
    have H' := Aside0.mk H
    clear H
    go_enter Tryd.func11, Tryd.ntmps11
    go_wp2
    go_loopg [13] k (fun kq v13 w' => ∃ (x13_1 : Int), v13 = .int .i64 x13_1 ∧ Aside0 (switchyardlaw19_Same.l0 kq l0 l1 (l0.length : Int) x13_1 = some r) ∧ Aside0 (kq ≤ k) ∧ Aside0 (Below w.heap.size w w'))
    case atStart => exact ⟨(0), (by first | rfl | (simp; done) | (simp [*]; done)), H', ⟨Nat.le_refl _⟩, ⟨by repeat (first | (with_reducible first | exact HB.out | apply below_alloc | apply pw_below_drewN | apply below_drew1) | exact HB.out)⟩⟩
    case round =>
      clear H'
      try clear c1
      try clear p2
      try clear c3
      try clear c3b0
      try clear c3b1
      try clear c3b2
      obtain ⟨x13_1, rfl, HA, HK1, HB⟩ := hrel
      cases gk with
      | zero => exact absurd HA.out (by simp [switchyardlaw19_Same.l0])
      | succ k1 =>
        have H := HA.out
        clear HA
        simp only [switchyardlaw19_Same.l0] at H
        by_cases c4 : x13_1 < (l0.length : Int)
        · rw [if_pos c4] at H
          have c4b0 : decide (x13_1 < (l0.length : Int)) = true := decide_eq_true c4
          clear c4
          by_cases c5 : 0 ≤ x13_1
          · rw [if_pos c5] at H
            have c5b0 : decide (0 ≤ x13_1) = true := decide_eq_true c5
            clear c5
            by_cases c6 : x13_1 < (l0.length : Int)
            · rw [if_pos c6] at H
              have c6b0 : decide (x13_1 < (l0.length : Int)) = true := decide_eq_true c6
              clear c6
              by_cases c7 : x13_1 < (l1.length : Int)
              · rw [if_pos c7] at H
                have c7b0 : decide (x13_1 < (l1.length : Int)) = true := decide_eq_true c7
                clear c7
                replace H := Option.bind_eq_some_iff.mp H
                obtain ⟨t188, A80, H⟩ := H
                replace H : (if t188 = true then (switchyardlaw19_Same.l0 k1 l0 l1 (l0.length : Int) (wrap64 (x13_1 + 1))) else (some false)) = some r := H
                have A8 := Aside0.mk A80
                clear A80
                by_cases c9 : t188 = true
                · subst c9
                  have H1 : (switchyardlaw19_Same.l0 k1 l0 l1 (l0.length : Int) (wrap64 (x13_1 + 1))) = some r := by rw [if_pos rfl] at H; exact H
                  clear H
                  have H := H1
                  clear H1
                  have H' := Aside0.mk H
                  clear H
                  try go_wp2
                  have n0_ := Aside0.mk (below_drew1 HB.out)
                  clear HB
                  have HB := n0_
                  clear n0_
                  have p186 : 0 ≤ (x13_1 : Int) := of_decide_eq_true (by first | (with_reducible assumption) | assumption)
                  have q186 : x13_1 < (l0.length : Int) := of_decide_eq_true (by first | (with_reducible assumption) | assumption)
                  obtain ⟨ad186, A186_3, c186_3, A186_4, c186_4, e186, hx186_0, hx186_1, hx186_2, hx186_3, hx186_4, hx186_5, hl186_3, hi186_3, hl186_4, hi186_4⟩ := at_T27 HR0.out x13_1 p186 q186
                  have hw186_5 := hx186_5
                  have hw186_4 := hx186_4
                  have hw186_3 := hx186_3
                  have hw186_2 := hx186_2
                  have hw186_1 := hx186_1
                  have hw186_0 := hx186_0
                  cases e186
                  replace hx186_0 := (HB.out.cell (World.block_lt_of_cell? w _ hx186_0)).trans hx186_0
                  replace hx186_1 := (HB.out.cell (World.block_lt_of_cell? w _ hx186_1)).trans hx186_1
                  replace hx186_2 := (HB.out.cell (World.block_lt_of_cell? w _ hx186_2)).trans hx186_2
                  replace hx186_3 := (HB.out.cell (World.block_lt_of_cell? w _ hx186_3)).trans hx186_3
                  replace hx186_4 := (HB.out.cell (World.block_lt_of_cell? w _ hx186_4)).trans hx186_4
                  replace hx186_5 := (HB.out.cell (World.block_lt_of_cell? w _ hx186_5)).trans hx186_5
                  have HR186_3 := Aside0.mk hi186_3
                  have HC186_3 := Aside0.mk hl186_3
                  clear hi186_3 hl186_3
                  have HR186_4 := Aside0.mk hi186_4
                  have HC186_4 := Aside0.mk hl186_4
                  clear hi186_4 hl186_4
                  replace p186 := eq_true p186
                  replace q186 := eq_true q186
                  have p187 : 0 ≤ (x13_1 : Int) := of_decide_eq_true (by first | (with_reducible assumption) | assumption)
                  have q187 : x13_1 < (l1.length : Int) := of_decide_eq_true (by first | (with_reducible assumption) | assumption)
                  obtain ⟨ad187, A187_3, c187_3, A187_4, c187_4, e187, hx187_0, hx187_1, hx187_2, hx187_3, hx187_4, hx187_5, hl187_3, hi187_3, hl187_4, hi187_4⟩ := at_T27 HR1.out x13_1 p187 q187
                  have hw187_5 := hx187_5
                  have hw187_4 := hx187_4
                  have hw187_3 := hx187_3
                  have hw187_2 := hx187_2
                  have hw187_1 := hx187_1
                  have hw187_0 := hx187_0
                  cases e187
                  replace hx187_0 := (HB.out.cell (World.block_lt_of_cell? w _ hx187_0)).trans hx187_0
                  replace hx187_1 := (HB.out.cell (World.block_lt_of_cell? w _ hx187_1)).trans hx187_1
                  replace hx187_2 := (HB.out.cell (World.block_lt_of_cell? w _ hx187_2)).trans hx187_2
                  replace hx187_3 := (HB.out.cell (World.block_lt_of_cell? w _ hx187_3)).trans hx187_3
                  replace hx187_4 := (HB.out.cell (World.block_lt_of_cell? w _ hx187_4)).trans hx187_4
                  replace hx187_5 := (HB.out.cell (World.block_lt_of_cell? w _ hx187_5)).trans hx187_5
                  have HR187_3 := Aside0.mk hi187_3
                  have HC187_3 := Aside0.mk hl187_3
                  clear hi187_3 hl187_3
                  have HR187_4 := Aside0.mk hi187_4
                  have HC187_4 := Aside0.mk hl187_4
                  clear hi187_4 hl187_4
                  replace p187 := eq_true p187
                  replace q187 := eq_true q187
                  refine start_ (n := 10) (S := fun w' => w'.cell? (ad186.add ((x13_1).toNat * 6)) = some (.int .i64 ((rd_T27 l0 x13_1).f0)) ∧ w'.cell? ⟨(ad186.add ((x13_1).toNat * 6)).block, (ad186.add ((x13_1).toNat * 6)).off + 1, none⟩ = some (.int .i64 ((rd_T27 l0 x13_1).f1.f0)) ∧ w'.cell? ⟨(ad186.add ((x13_1).toNat * 6)).block, (ad186.add ((x13_1).toNat * 6)).off + 2, none⟩ = some (.string ((rd_T27 l0 x13_1).f1.f1)) ∧ w'.cell? ⟨(ad186.add ((x13_1).toNat * 6)).block, (ad186.add ((x13_1).toNat * 6)).off + 3, none⟩ = some (.slice A186_3 ((rd_T27 l0 x13_1).f1.f2).length c186_3) ∧ w'.cell? ⟨(ad186.add ((x13_1).toNat * 6)).block, (ad186.add ((x13_1).toNat * 6)).off + 4, none⟩ = some (.slice A186_4 ((rd_T27 l0 x13_1).f1.f3).length c186_4) ∧ w'.cell? ⟨(ad186.add ((x13_1).toNat * 6)).block, (ad186.add ((x13_1).toNat * 6)).off + 5, none⟩ = some (.int .i64 ((rd_T27 l0 x13_1).f2)) ∧ w'.cell? (ad187.add ((x13_1).toNat * 6)) = some (.int .i64 ((rd_T27 l1 x13_1).f0)) ∧ w'.cell? ⟨(ad187.add ((x13_1).toNat * 6)).block, (ad187.add ((x13_1).toNat * 6)).off + 1, none⟩ = some (.int .i64 ((rd_T27 l1 x13_1).f1.f0)) ∧ w'.cell? ⟨(ad187.add ((x13_1).toNat * 6)).block, (ad187.add ((x13_1).toNat * 6)).off + 2, none⟩ = some (.string ((rd_T27 l1 x13_1).f1.f1)) ∧ w'.cell? ⟨(ad187.add ((x13_1).toNat * 6)).block, (ad187.add ((x13_1).toNat * 6)).off + 3, none⟩ = some (.slice A187_3 ((rd_T27 l1 x13_1).f1.f2).length c187_3) ∧ w'.cell? ⟨(ad187.add ((x13_1).toNat * 6)).block, (ad187.add ((x13_1).toNat * 6)).off + 4, none⟩ = some (.slice A187_4 ((rd_T27 l1 x13_1).f1.f3).length c187_4) ∧ w'.cell? ⟨(ad187.add ((x13_1).toNat * 6)).block, (ad187.add ((x13_1).toNat * 6)).off + 5, none⟩ = some (.int .i64 ((rd_T27 l1 x13_1).f2))) (ds := []) #[false, false, false, false, false, false, false, false, false, false] (by kernel_rfl) rfl rfl ⟨((HB.out.cell (World.block_lt_of_cell? w _ hw186_0)).trans hw186_0), ((HB.out.cell (World.block_lt_of_cell? w _ hw186_1)).trans hw186_1), ((HB.out.cell (World.block_lt_of_cell? w _ hw186_2)).trans hw186_2), ((HB.out.cell (World.block_lt_of_cell? w _ hw186_3)).trans hw186_3), ((HB.out.cell (World.block_lt_of_cell? w _ hw186_4)).trans hw186_4), ((HB.out.cell (World.block_lt_of_cell? w _ hw186_5)).trans hw186_5), ((HB.out.cell (World.block_lt_of_cell? w _ hw187_0)).trans hw187_0), ((HB.out.cell (World.block_lt_of_cell? w _ hw187_1)).trans hw187_1), ((HB.out.cell (World.block_lt_of_cell? w _ hw187_2)).trans hw187_2), ((HB.out.cell (World.block_lt_of_cell? w _ hw187_3)).trans hw187_3), ((HB.out.cell (World.block_lt_of_cell? w _ hw187_4)).trans hw187_4), ((HB.out.cell (World.block_lt_of_cell? w _ hw187_5)).trans hw187_5)⟩ (fun hHeld => ?_); refine with_tabW switchyardlaw19_Same.tab6 switchyardlaw19_Same.bits6 (fun HT_ HW_ => ?_)
                  generalize wr.drew = w10 at HB HR186_3 HR186_4 HR187_3 HR187_4 hx186_0 hx186_1 hx186_2 hx186_3 hx186_4 hx186_5 hx187_0 hx187_1 hx187_2 hx187_3 hx187_4 hx187_5 hHeld ⊢
                  refine pure_ (i := 0) (N := some 16) (v := ?_) (a' := ?_) #[true, false, false, false, false, false, false, false, false, false] rfl rfl (any_of HT_.out (by kernel_rfl)) (fun _ _ _ h => h) (Or.inl ⟨by rfl, ?_⟩) ?_ ?_
                  rotate_left
                  · intro w'
                    go_simp
                    with_reducible rfl
                  rotate_left
                  · simp only [Act.put, List.setIfInBounds_toArray, List.set_cons_zero, List.set_cons_succ, i64_w, i32_w]
                    rfl
                  refine pure_ (i := 1) (N := some 17) (v := ?_) (a' := ?_) #[true, true, false, false, false, false, false, false, false, false] rfl rfl (any_of HT_.out (by kernel_rfl)) (fun _ _ _ h => h) (Or.inl ⟨by rfl, ?_⟩) ?_ ?_
                  rotate_left
                  · intro w'
                    go_simp
                    with_reducible rfl
                  rotate_left
                  · simp only [Act.put, List.setIfInBounds_toArray, List.set_cons_zero, List.set_cons_succ, i64_w, i32_w]
                    rfl
                  refine pure_ (i := 2) (N := some 18) (v := ?_) (a' := ?_) #[true, true, true, false, false, false, false, false, false, false] rfl rfl (any_of HT_.out (by kernel_rfl)) (fun _ _ _ h => h) (Or.inl ⟨by rfl, ?_⟩) ?_ ?_
                  rotate_left
                  · intro w'
                    go_simp
                    with_reducible rfl
                  rotate_left
                  · simp only [Act.put, List.setIfInBounds_toArray, List.set_cons_zero, List.set_cons_succ, i64_w, i32_w]
                    rfl
                  refine pure_ (i := 4) (N := some 20) (v := ?_) (a' := ?_) #[true, true, true, false, true, false, false, false, false, false] rfl rfl (any_of HT_.out (by kernel_rfl)) (fun _ _ _ h => h) (Or.inl ⟨by rfl, ?_⟩) ?_ ?_
                  rotate_left
                  · intro w'
                    go_simp
                    with_reducible rfl
                  rotate_left
                  · simp only [Act.put, List.setIfInBounds_toArray, List.set_cons_zero, List.set_cons_succ, i64_w, i32_w]
                    rfl
                  refine pure_ (i := 5) (N := some 21) (v := ?_) (a' := ?_) #[true, true, true, false, true, true, false, false, false, false] rfl rfl (any_of HT_.out (by kernel_rfl)) (fun _ _ _ h => h) (Or.inl ⟨by rfl, ?_⟩) ?_ ?_
                  rotate_left
                  · intro w'
                    go_simp
                    with_reducible rfl
                  rotate_left
                  · simp only [Act.put, List.setIfInBounds_toArray, List.set_cons_zero, List.set_cons_succ, i64_w, i32_w]
                    rfl
                  refine pure_ (i := 6) (N := some 22) (v := ?_) (a' := ?_) #[true, true, true, false, true, true, true, false, false, false] rfl rfl (any_of HT_.out (by kernel_rfl)) (fun _ _ _ h => h) (Or.inl ⟨by rfl, ?_⟩) ?_ ?_
                  rotate_left
                  · intro w'
                    go_simp
                    with_reducible rfl
                  rotate_left
                  · simp only [Act.put, List.setIfInBounds_toArray, List.set_cons_zero, List.set_cons_succ, i64_w, i32_w]
                    rfl
                  refine take_ (i := 3) (N := some 19) (v := ?_) (a' := ?_) #[true, true, true, true, true, true, true, false, false, false] rfl rfl (take_ofW HT_.out HW_.out (by kernel_rfl)) (fun _ _ _ h => h) (Or.inl ⟨by rfl, ?_⟩) hHeld ?_ ?_
                  rotate_left
                  · rintro w' ⟨s0, s1, s2, s3, s4, s5, s6, s7, s8, s9, s10, s11⟩
                    go_simp
                    with_reducible rfl
                  rotate_left
                  · simp only [Act.put, List.setIfInBounds_toArray, List.set_cons_zero, List.set_cons_succ, i64_w, i32_w]
                    rfl
                  refine take_ (i := 7) (N := some 23) (v := ?_) (a' := ?_) #[true, true, true, true, true, true, true, true, false, false] rfl rfl (take_ofW HT_.out HW_.out (by kernel_rfl)) (fun _ _ _ h => h) (Or.inl ⟨by rfl, ?_⟩) hHeld ?_ ?_
                  rotate_left
                  · rintro w' ⟨s0, s1, s2, s3, s4, s5, s6, s7, s8, s9, s10, s11⟩
                    go_simp
                    with_reducible rfl
                  rotate_left
                  · simp only [Act.put, List.setIfInBounds_toArray, List.set_cons_zero, List.set_cons_succ, i64_w, i32_w]
                    rfl
                  refine one_ (i := 8) (N := some 24) #[true, true, true, true, true, true, true, true, true, false] rfl rfl (one_of HT_.out (by kernel_rfl)) (by decide) (fun K hK => ?_)
                  refine goes_ Tryd.func18 (by kernel_rfl) rfl #[.agg #[.int .i64 ((rd_T27 l0 x13_1).f0), .int .i64 ((rd_T27 l0 x13_1).f1.f0), .string ((rd_T27 l0 x13_1).f1.f1), .slice A186_3 ((rd_T27 l0 x13_1).f1.f2).length c186_3, .slice A186_4 ((rd_T27 l0 x13_1).f1.f3).length c186_4, .int .i64 ((rd_T27 l0 x13_1).f2)], .agg #[.int .i64 ((rd_T27 l1 x13_1).f0), .int .i64 ((rd_T27 l1 x13_1).f1.f0), .string ((rd_T27 l1 x13_1).f1.f1), .slice A187_3 ((rd_T27 l1 x13_1).f1.f2).length c187_3, .slice A187_4 ((rd_T27 l1 x13_1).f1.f3).length c187_4, .int .i64 ((rd_T27 l1 x13_1).f2)]] (by rfl) rfl rfl (by (try simp only [List.map_toArray, List.map_cons, List.map_nil]); first | done | rfl | (simp only [List.length_drop, List.length_take]; rfl)) ?_
                  with_reducible refine (switchyardref13_SameDead.calls k1 ((rd_T27 l0 x13_1).f0) ((rd_T27 l0 x13_1).f1.f0) ((rd_T27 l0 x13_1).f1.f1) _ _ ((rd_T27 l0 x13_1).f1.f2) _ _ ((rd_T27 l0 x13_1).f1.f3) ((rd_T27 l0 x13_1).f2) ((rd_T27 l1 x13_1).f0) ((rd_T27 l1 x13_1).f1.f0) ((rd_T27 l1 x13_1).f1.f1) _ _ ((rd_T27 l1 x13_1).f1.f2) _ _ ((rd_T27 l1 x13_1).f1.f3) ((rd_T27 l1 x13_1).f2) true _ ?side1 ?side2 ?side3 ?side4 ?side5 ?side6 ?side7 ?side8 A8.out).mono ?_
                  (case side1 => repeat (first | exact (Kd.C_below HR186_3.out HB.out) | (with_reducible refine Kd.C_alloc ?_ _) | (with_reducible refine Kd.C_drewN ?_ _) | (with_reducible refine Kd.C_drew ?_)))
                  (case side2 => exact HC186_3.out)
                  (case side3 => repeat (first | exact (Kd.C_below HR186_4.out HB.out) | (with_reducible refine Kd.C_alloc ?_ _) | (with_reducible refine Kd.C_drewN ?_ _) | (with_reducible refine Kd.C_drew ?_)))
                  (case side4 => exact HC186_4.out)
                  (case side5 => repeat (first | exact (Kd.C_below HR187_3.out HB.out) | (with_reducible refine Kd.C_alloc ?_ _) | (with_reducible refine Kd.C_drewN ?_ _) | (with_reducible refine Kd.C_drew ?_)))
                  (case side6 => exact HC187_3.out)
                  (case side7 => repeat (first | exact (Kd.C_below HR187_4.out HB.out) | (with_reducible refine Kd.C_alloc ?_ _) | (with_reducible refine Kd.C_drewN ?_ _) | (with_reducible refine Kd.C_drew ?_)))
                  (case side8 => exact HC187_4.out)
                  rintro e w11 ⟨rfl, hb⟩
                  refine ⟨_, rfl, ?_⟩
                  have n0_ := Aside0.mk (below_step (by repeat (first | (with_reducible first | exact HB.out | apply below_alloc | apply pw_below_drewN | apply below_drew1) | exact HB.out)) hb)
                  clear HB
                  have HB := n0_
                  clear n0_
                  (try clear hb)
                  (try clear hb2)
                  (try clear hk)
                  (try clear hi)
                  refine hK.out _ _ ⟨((HB.out.cell (World.block_lt_of_cell? w _ hw186_0)).trans hw186_0), ((HB.out.cell (World.block_lt_of_cell? w _ hw186_1)).trans hw186_1), ((HB.out.cell (World.block_lt_of_cell? w _ hw186_2)).trans hw186_2), ((HB.out.cell (World.block_lt_of_cell? w _ hw186_3)).trans hw186_3), ((HB.out.cell (World.block_lt_of_cell? w _ hw186_4)).trans hw186_4), ((HB.out.cell (World.block_lt_of_cell? w _ hw186_5)).trans hw186_5), ((HB.out.cell (World.block_lt_of_cell? w _ hw187_0)).trans hw187_0), ((HB.out.cell (World.block_lt_of_cell? w _ hw187_1)).trans hw187_1), ((HB.out.cell (World.block_lt_of_cell? w _ hw187_2)).trans hw187_2), ((HB.out.cell (World.block_lt_of_cell? w _ hw187_3)).trans hw187_3), ((HB.out.cell (World.block_lt_of_cell? w _ hw187_4)).trans hw187_4), ((HB.out.cell (World.block_lt_of_cell? w _ hw187_5)).trans hw187_5)⟩ (fun hHeld => ?_)
                  clear hK K
                  refine norm_ (a' := ?_) ?_ ?_
                  rotate_left
                  · show Act.put _ (some 24) _ = _
                    simp only [Act.put, List.setIfInBounds_toArray, List.set_cons_zero, List.set_cons_succ, i64_w, i32_w]
                    rfl
                  refine pure_ (i := 9) (N := some 25) (v := ?_) (a' := ?_) #[true, true, true, true, true, true, true, true, true, true] rfl rfl (any_of HT_.out (by kernel_rfl)) (fun _ _ _ h => h) (Or.inl ⟨by rfl, ?_⟩) ?_ ?_
                  rotate_left
                  · intro w'
                    go_simp
                    with_reducible rfl
                  rotate_left
                  · simp only [Act.put, List.setIfInBounds_toArray, List.set_cons_zero, List.set_cons_succ, i64_w, i32_w]
                    rfl
                  refine done_ (done_of HT_.out (by kernel_rfl)) ?_
                  try go_wp2
                  go_roundg k1
                  case measure => have := HK1.out; omega
                  case rel => exact ⟨(wrap64 (x13_1 + 1)), (by first | rfl | (simp; done) | (simp [*]; done)), H', ⟨by have := HK1.out; omega⟩, ⟨by repeat (first | (with_reducible first | exact HB.out | apply below_alloc | apply pw_below_drewN | apply below_drew1) | exact HB.out)⟩⟩
                · replace c9 := Bool.eq_false_iff.mpr c9
                  subst c9
                  have H1 : (some false) = some r := by rw [if_neg (show ¬ (false = true) by decide)] at H; exact H
                  clear H
                  have H := H1
                  clear H1
                  obtain rfl := Option.some.inj H
                  try go_wp2
                  have n0_ := Aside0.mk (below_drew1 HB.out)
                  clear HB
                  have HB := n0_
                  clear n0_
                  have p186 : 0 ≤ (x13_1 : Int) := of_decide_eq_true (by first | (with_reducible assumption) | assumption)
                  have q186 : x13_1 < (l0.length : Int) := of_decide_eq_true (by first | (with_reducible assumption) | assumption)
                  obtain ⟨ad186, A186_3, c186_3, A186_4, c186_4, e186, hx186_0, hx186_1, hx186_2, hx186_3, hx186_4, hx186_5, hl186_3, hi186_3, hl186_4, hi186_4⟩ := at_T27 HR0.out x13_1 p186 q186
                  have hw186_5 := hx186_5
                  have hw186_4 := hx186_4
                  have hw186_3 := hx186_3
                  have hw186_2 := hx186_2
                  have hw186_1 := hx186_1
                  have hw186_0 := hx186_0
                  cases e186
                  replace hx186_0 := (HB.out.cell (World.block_lt_of_cell? w _ hx186_0)).trans hx186_0
                  replace hx186_1 := (HB.out.cell (World.block_lt_of_cell? w _ hx186_1)).trans hx186_1
                  replace hx186_2 := (HB.out.cell (World.block_lt_of_cell? w _ hx186_2)).trans hx186_2
                  replace hx186_3 := (HB.out.cell (World.block_lt_of_cell? w _ hx186_3)).trans hx186_3
                  replace hx186_4 := (HB.out.cell (World.block_lt_of_cell? w _ hx186_4)).trans hx186_4
                  replace hx186_5 := (HB.out.cell (World.block_lt_of_cell? w _ hx186_5)).trans hx186_5
                  have HR186_3 := Aside0.mk hi186_3
                  have HC186_3 := Aside0.mk hl186_3
                  clear hi186_3 hl186_3
                  have HR186_4 := Aside0.mk hi186_4
                  have HC186_4 := Aside0.mk hl186_4
                  clear hi186_4 hl186_4
                  replace p186 := eq_true p186
                  replace q186 := eq_true q186
                  have p187 : 0 ≤ (x13_1 : Int) := of_decide_eq_true (by first | (with_reducible assumption) | assumption)
                  have q187 : x13_1 < (l1.length : Int) := of_decide_eq_true (by first | (with_reducible assumption) | assumption)
                  obtain ⟨ad187, A187_3, c187_3, A187_4, c187_4, e187, hx187_0, hx187_1, hx187_2, hx187_3, hx187_4, hx187_5, hl187_3, hi187_3, hl187_4, hi187_4⟩ := at_T27 HR1.out x13_1 p187 q187
                  have hw187_5 := hx187_5
                  have hw187_4 := hx187_4
                  have hw187_3 := hx187_3
                  have hw187_2 := hx187_2
                  have hw187_1 := hx187_1
                  have hw187_0 := hx187_0
                  cases e187
                  replace hx187_0 := (HB.out.cell (World.block_lt_of_cell? w _ hx187_0)).trans hx187_0
                  replace hx187_1 := (HB.out.cell (World.block_lt_of_cell? w _ hx187_1)).trans hx187_1
                  replace hx187_2 := (HB.out.cell (World.block_lt_of_cell? w _ hx187_2)).trans hx187_2
                  replace hx187_3 := (HB.out.cell (World.block_lt_of_cell? w _ hx187_3)).trans hx187_3
                  replace hx187_4 := (HB.out.cell (World.block_lt_of_cell? w _ hx187_4)).trans hx187_4
                  replace hx187_5 := (HB.out.cell (World.block_lt_of_cell? w _ hx187_5)).trans hx187_5
                  have HR187_3 := Aside0.mk hi187_3
                  have HC187_3 := Aside0.mk hl187_3
                  clear hi187_3 hl187_3
                  have HR187_4 := Aside0.mk hi187_4
                  have HC187_4 := Aside0.mk hl187_4
                  clear hi187_4 hl187_4
                  replace p187 := eq_true p187
                  replace q187 := eq_true q187
                  refine start_ (n := 10) (S := fun w' => w'.cell? (ad186.add ((x13_1).toNat * 6)) = some (.int .i64 ((rd_T27 l0 x13_1).f0)) ∧ w'.cell? ⟨(ad186.add ((x13_1).toNat * 6)).block, (ad186.add ((x13_1).toNat * 6)).off + 1, none⟩ = some (.int .i64 ((rd_T27 l0 x13_1).f1.f0)) ∧ w'.cell? ⟨(ad186.add ((x13_1).toNat * 6)).block, (ad186.add ((x13_1).toNat * 6)).off + 2, none⟩ = some (.string ((rd_T27 l0 x13_1).f1.f1)) ∧ w'.cell? ⟨(ad186.add ((x13_1).toNat * 6)).block, (ad186.add ((x13_1).toNat * 6)).off + 3, none⟩ = some (.slice A186_3 ((rd_T27 l0 x13_1).f1.f2).length c186_3) ∧ w'.cell? ⟨(ad186.add ((x13_1).toNat * 6)).block, (ad186.add ((x13_1).toNat * 6)).off + 4, none⟩ = some (.slice A186_4 ((rd_T27 l0 x13_1).f1.f3).length c186_4) ∧ w'.cell? ⟨(ad186.add ((x13_1).toNat * 6)).block, (ad186.add ((x13_1).toNat * 6)).off + 5, none⟩ = some (.int .i64 ((rd_T27 l0 x13_1).f2)) ∧ w'.cell? (ad187.add ((x13_1).toNat * 6)) = some (.int .i64 ((rd_T27 l1 x13_1).f0)) ∧ w'.cell? ⟨(ad187.add ((x13_1).toNat * 6)).block, (ad187.add ((x13_1).toNat * 6)).off + 1, none⟩ = some (.int .i64 ((rd_T27 l1 x13_1).f1.f0)) ∧ w'.cell? ⟨(ad187.add ((x13_1).toNat * 6)).block, (ad187.add ((x13_1).toNat * 6)).off + 2, none⟩ = some (.string ((rd_T27 l1 x13_1).f1.f1)) ∧ w'.cell? ⟨(ad187.add ((x13_1).toNat * 6)).block, (ad187.add ((x13_1).toNat * 6)).off + 3, none⟩ = some (.slice A187_3 ((rd_T27 l1 x13_1).f1.f2).length c187_3) ∧ w'.cell? ⟨(ad187.add ((x13_1).toNat * 6)).block, (ad187.add ((x13_1).toNat * 6)).off + 4, none⟩ = some (.slice A187_4 ((rd_T27 l1 x13_1).f1.f3).length c187_4) ∧ w'.cell? ⟨(ad187.add ((x13_1).toNat * 6)).block, (ad187.add ((x13_1).toNat * 6)).off + 5, none⟩ = some (.int .i64 ((rd_T27 l1 x13_1).f2))) (ds := []) #[false, false, false, false, false, false, false, false, false, false] (by kernel_rfl) rfl rfl ⟨((HB.out.cell (World.block_lt_of_cell? w _ hw186_0)).trans hw186_0), ((HB.out.cell (World.block_lt_of_cell? w _ hw186_1)).trans hw186_1), ((HB.out.cell (World.block_lt_of_cell? w _ hw186_2)).trans hw186_2), ((HB.out.cell (World.block_lt_of_cell? w _ hw186_3)).trans hw186_3), ((HB.out.cell (World.block_lt_of_cell? w _ hw186_4)).trans hw186_4), ((HB.out.cell (World.block_lt_of_cell? w _ hw186_5)).trans hw186_5), ((HB.out.cell (World.block_lt_of_cell? w _ hw187_0)).trans hw187_0), ((HB.out.cell (World.block_lt_of_cell? w _ hw187_1)).trans hw187_1), ((HB.out.cell (World.block_lt_of_cell? w _ hw187_2)).trans hw187_2), ((HB.out.cell (World.block_lt_of_cell? w _ hw187_3)).trans hw187_3), ((HB.out.cell (World.block_lt_of_cell? w _ hw187_4)).trans hw187_4), ((HB.out.cell (World.block_lt_of_cell? w _ hw187_5)).trans hw187_5)⟩ (fun hHeld => ?_); refine with_tabW switchyardlaw19_Same.tab6 switchyardlaw19_Same.bits6 (fun HT_ HW_ => ?_)
                  generalize wr.drew = w12 at HB HR186_3 HR186_4 HR187_3 HR187_4 hx186_0 hx186_1 hx186_2 hx186_3 hx186_4 hx186_5 hx187_0 hx187_1 hx187_2 hx187_3 hx187_4 hx187_5 hHeld ⊢
                  refine pure_ (i := 0) (N := some 16) (v := ?_) (a' := ?_) #[true, false, false, false, false, false, false, false, false, false] rfl rfl (any_of HT_.out (by kernel_rfl)) (fun _ _ _ h => h) (Or.inl ⟨by rfl, ?_⟩) ?_ ?_
                  rotate_left
                  · intro w'
                    go_simp
                    with_reducible rfl
                  rotate_left
                  · simp only [Act.put, List.setIfInBounds_toArray, List.set_cons_zero, List.set_cons_succ, i64_w, i32_w]
                    rfl
                  refine pure_ (i := 1) (N := some 17) (v := ?_) (a' := ?_) #[true, true, false, false, false, false, false, false, false, false] rfl rfl (any_of HT_.out (by kernel_rfl)) (fun _ _ _ h => h) (Or.inl ⟨by rfl, ?_⟩) ?_ ?_
                  rotate_left
                  · intro w'
                    go_simp
                    with_reducible rfl
                  rotate_left
                  · simp only [Act.put, List.setIfInBounds_toArray, List.set_cons_zero, List.set_cons_succ, i64_w, i32_w]
                    rfl
                  refine pure_ (i := 2) (N := some 18) (v := ?_) (a' := ?_) #[true, true, true, false, false, false, false, false, false, false] rfl rfl (any_of HT_.out (by kernel_rfl)) (fun _ _ _ h => h) (Or.inl ⟨by rfl, ?_⟩) ?_ ?_
                  rotate_left
                  · intro w'
                    go_simp
                    with_reducible rfl
                  rotate_left
                  · simp only [Act.put, List.setIfInBounds_toArray, List.set_cons_zero, List.set_cons_succ, i64_w, i32_w]
                    rfl
                  refine pure_ (i := 4) (N := some 20) (v := ?_) (a' := ?_) #[true, true, true, false, true, false, false, false, false, false] rfl rfl (any_of HT_.out (by kernel_rfl)) (fun _ _ _ h => h) (Or.inl ⟨by rfl, ?_⟩) ?_ ?_
                  rotate_left
                  · intro w'
                    go_simp
                    with_reducible rfl
                  rotate_left
                  · simp only [Act.put, List.setIfInBounds_toArray, List.set_cons_zero, List.set_cons_succ, i64_w, i32_w]
                    rfl
                  refine pure_ (i := 5) (N := some 21) (v := ?_) (a' := ?_) #[true, true, true, false, true, true, false, false, false, false] rfl rfl (any_of HT_.out (by kernel_rfl)) (fun _ _ _ h => h) (Or.inl ⟨by rfl, ?_⟩) ?_ ?_
                  rotate_left
                  · intro w'
                    go_simp
                    with_reducible rfl
                  rotate_left
                  · simp only [Act.put, List.setIfInBounds_toArray, List.set_cons_zero, List.set_cons_succ, i64_w, i32_w]
                    rfl
                  refine pure_ (i := 6) (N := some 22) (v := ?_) (a' := ?_) #[true, true, true, false, true, true, true, false, false, false] rfl rfl (any_of HT_.out (by kernel_rfl)) (fun _ _ _ h => h) (Or.inl ⟨by rfl, ?_⟩) ?_ ?_
                  rotate_left
                  · intro w'
                    go_simp
                    with_reducible rfl
                  rotate_left
                  · simp only [Act.put, List.setIfInBounds_toArray, List.set_cons_zero, List.set_cons_succ, i64_w, i32_w]
                    rfl
                  refine take_ (i := 3) (N := some 19) (v := ?_) (a' := ?_) #[true, true, true, true, true, true, true, false, false, false] rfl rfl (take_ofW HT_.out HW_.out (by kernel_rfl)) (fun _ _ _ h => h) (Or.inl ⟨by rfl, ?_⟩) hHeld ?_ ?_
                  rotate_left
                  · rintro w' ⟨s0, s1, s2, s3, s4, s5, s6, s7, s8, s9, s10, s11⟩
                    go_simp
                    with_reducible rfl
                  rotate_left
                  · simp only [Act.put, List.setIfInBounds_toArray, List.set_cons_zero, List.set_cons_succ, i64_w, i32_w]
                    rfl
                  refine take_ (i := 7) (N := some 23) (v := ?_) (a' := ?_) #[true, true, true, true, true, true, true, true, false, false] rfl rfl (take_ofW HT_.out HW_.out (by kernel_rfl)) (fun _ _ _ h => h) (Or.inl ⟨by rfl, ?_⟩) hHeld ?_ ?_
                  rotate_left
                  · rintro w' ⟨s0, s1, s2, s3, s4, s5, s6, s7, s8, s9, s10, s11⟩
                    go_simp
                    with_reducible rfl
                  rotate_left
                  · simp only [Act.put, List.setIfInBounds_toArray, List.set_cons_zero, List.set_cons_succ, i64_w, i32_w]
                    rfl
                  refine one_ (i := 8) (N := some 24) #[true, true, true, true, true, true, true, true, true, false] rfl rfl (one_of HT_.out (by kernel_rfl)) (by decide) (fun K hK => ?_)
                  refine goes_ Tryd.func18 (by kernel_rfl) rfl #[.agg #[.int .i64 ((rd_T27 l0 x13_1).f0), .int .i64 ((rd_T27 l0 x13_1).f1.f0), .string ((rd_T27 l0 x13_1).f1.f1), .slice A186_3 ((rd_T27 l0 x13_1).f1.f2).length c186_3, .slice A186_4 ((rd_T27 l0 x13_1).f1.f3).length c186_4, .int .i64 ((rd_T27 l0 x13_1).f2)], .agg #[.int .i64 ((rd_T27 l1 x13_1).f0), .int .i64 ((rd_T27 l1 x13_1).f1.f0), .string ((rd_T27 l1 x13_1).f1.f1), .slice A187_3 ((rd_T27 l1 x13_1).f1.f2).length c187_3, .slice A187_4 ((rd_T27 l1 x13_1).f1.f3).length c187_4, .int .i64 ((rd_T27 l1 x13_1).f2)]] (by rfl) rfl rfl (by (try simp only [List.map_toArray, List.map_cons, List.map_nil]); first | done | rfl | (simp only [List.length_drop, List.length_take]; rfl)) ?_
                  with_reducible refine (switchyardref13_SameDead.calls k1 ((rd_T27 l0 x13_1).f0) ((rd_T27 l0 x13_1).f1.f0) ((rd_T27 l0 x13_1).f1.f1) _ _ ((rd_T27 l0 x13_1).f1.f2) _ _ ((rd_T27 l0 x13_1).f1.f3) ((rd_T27 l0 x13_1).f2) ((rd_T27 l1 x13_1).f0) ((rd_T27 l1 x13_1).f1.f0) ((rd_T27 l1 x13_1).f1.f1) _ _ ((rd_T27 l1 x13_1).f1.f2) _ _ ((rd_T27 l1 x13_1).f1.f3) ((rd_T27 l1 x13_1).f2) false _ ?side1 ?side2 ?side3 ?side4 ?side5 ?side6 ?side7 ?side8 A8.out).mono ?_
                  (case side1 => repeat (first | exact (Kd.C_below HR186_3.out HB.out) | (with_reducible refine Kd.C_alloc ?_ _) | (with_reducible refine Kd.C_drewN ?_ _) | (with_reducible refine Kd.C_drew ?_)))
                  (case side2 => exact HC186_3.out)
                  (case side3 => repeat (first | exact (Kd.C_below HR186_4.out HB.out) | (with_reducible refine Kd.C_alloc ?_ _) | (with_reducible refine Kd.C_drewN ?_ _) | (with_reducible refine Kd.C_drew ?_)))
                  (case side4 => exact HC186_4.out)
                  (case side5 => repeat (first | exact (Kd.C_below HR187_3.out HB.out) | (with_reducible refine Kd.C_alloc ?_ _) | (with_reducible refine Kd.C_drewN ?_ _) | (with_reducible refine Kd.C_drew ?_)))
                  (case side6 => exact HC187_3.out)
                  (case side7 => repeat (first | exact (Kd.C_below HR187_4.out HB.out) | (with_reducible refine Kd.C_alloc ?_ _) | (with_reducible refine Kd.C_drewN ?_ _) | (with_reducible refine Kd.C_drew ?_)))
                  (case side8 => exact HC187_4.out)
                  rintro e w13 ⟨rfl, hb⟩
                  refine ⟨_, rfl, ?_⟩
                  have n0_ := Aside0.mk (below_step (by repeat (first | (with_reducible first | exact HB.out | apply below_alloc | apply pw_below_drewN | apply below_drew1) | exact HB.out)) hb)
                  clear HB
                  have HB := n0_
                  clear n0_
                  (try clear hb)
                  (try clear hb2)
                  (try clear hk)
                  (try clear hi)
                  refine hK.out _ _ ⟨((HB.out.cell (World.block_lt_of_cell? w _ hw186_0)).trans hw186_0), ((HB.out.cell (World.block_lt_of_cell? w _ hw186_1)).trans hw186_1), ((HB.out.cell (World.block_lt_of_cell? w _ hw186_2)).trans hw186_2), ((HB.out.cell (World.block_lt_of_cell? w _ hw186_3)).trans hw186_3), ((HB.out.cell (World.block_lt_of_cell? w _ hw186_4)).trans hw186_4), ((HB.out.cell (World.block_lt_of_cell? w _ hw186_5)).trans hw186_5), ((HB.out.cell (World.block_lt_of_cell? w _ hw187_0)).trans hw187_0), ((HB.out.cell (World.block_lt_of_cell? w _ hw187_1)).trans hw187_1), ((HB.out.cell (World.block_lt_of_cell? w _ hw187_2)).trans hw187_2), ((HB.out.cell (World.block_lt_of_cell? w _ hw187_3)).trans hw187_3), ((HB.out.cell (World.block_lt_of_cell? w _ hw187_4)).trans hw187_4), ((HB.out.cell (World.block_lt_of_cell? w _ hw187_5)).trans hw187_5)⟩ (fun hHeld => ?_)
                  clear hK K
                  refine norm_ (a' := ?_) ?_ ?_
                  rotate_left
                  · show Act.put _ (some 24) _ = _
                    simp only [Act.put, List.setIfInBounds_toArray, List.set_cons_zero, List.set_cons_succ, i64_w, i32_w]
                    rfl
                  refine pure_ (i := 9) (N := some 25) (v := ?_) (a' := ?_) #[true, true, true, true, true, true, true, true, true, true] rfl rfl (any_of HT_.out (by kernel_rfl)) (fun _ _ _ h => h) (Or.inl ⟨by rfl, ?_⟩) ?_ ?_
                  rotate_left
                  · intro w'
                    go_simp
                    with_reducible rfl
                  rotate_left
                  · simp only [Act.put, List.setIfInBounds_toArray, List.set_cons_zero, List.set_cons_succ, i64_w, i32_w]
                    rfl
                  refine done_ (done_of HT_.out (by kernel_rfl)) ?_
                  try go_wp2
                  go_ret
                  exact ⟨by first | rfl | (simp [errW_none, errW_some] <;> rfl) | (simp [*, errW_none, errW_some] <;> rfl), by repeat (first | (with_reducible first | exact HB.out | apply below_alloc | apply pw_below_drewN | apply below_drew1) | exact HB.out)⟩
              · rw [if_neg c7] at H
                exact absurd H (by simp)
            · rw [if_neg c6] at H
              exact absurd H (by simp)
          · rw [if_neg c5] at H
            exact absurd H (by simp)
        · rw [if_neg c4] at H
          have c4b0 : decide (x13_1 < (l0.length : Int)) = false := decide_eq_false c4
          clear c4
          obtain rfl := Option.some.inj H
          go_wp2
          go_ret
          exact ⟨by first | rfl | (simp [errW_none, errW_some] <;> rfl) | (simp [*, errW_none, errW_some] <;> rfl), by repeat (first | (with_reducible first | exact HB.out | apply below_alloc | apply pw_below_drewN | apply below_drew1) | exact HB.out)⟩
  · rw [if_neg c3] at H
    have c3b0 : ((l0.length : Int) == (l1.length : Int)) = false := beq_eq_false_iff_ne.mpr c3
    have c3b1 : ((l0.length : Int) != (l1.length : Int)) = true := bne_iff_ne.mpr c3
    have c3b2 : (l0.length == l1.length) = false := by first | simpa using c3 | (simp at c3 ⊢; omega)
    obtain rfl := Option.some.inj H
    go_enter Tryd.func11, Tryd.ntmps11
    go_wp2
    go_ret
    exact ⟨by first | rfl | (simp [errW_none, errW_some] <;> rfl) | (simp [*, errW_none, errW_some] <;> rfl), by repeat (first | (with_reducible first | exact HB.out | apply below_alloc | apply pw_below_drewN | apply below_drew1) | exact HB.out)⟩
end Go.Proofs.YtknbebjphjpgpaaDoor.XD
namespace Go.Proofs.YtknbebjphjpgpaaDoor.XD
open Go.RowKit Go.Proofs.YtknbebjphjpgpaaDoorW.PrintWords Go.Proofs.YtknbebjphjpgpaaDoorW.PrintLast Go.Proofs.YtknbebjphjpgpaaDoorW.PrintMore
set_option linter.unusedVariables false
set_option linter.unusedSimpArgs false
instance : DecidableEq S25 := fun a b => by
  obtain ⟨a0, a1, a2, a3⟩ := a
  obtain ⟨b0, b1, b2, b3⟩ := b
  rw [S25.mk.injEq]
  exact inferInstance
instance : DecidableEq S27 := fun a b => by
  obtain ⟨a0, a1, a2⟩ := a
  obtain ⟨b0, b1, b2⟩ := b
  rw [S27.mk.injEq]
  exact inferInstance
/-- A row of values that is short, with lists that may be. -/
def OkV (l : List S37) : Prop := l.length ≤ 30 ∧ ∀ v ∈ l, v.f3.length * 8 ≤ 140737488355328
/-- A letter whose rows are short. -/
def OkL (x : S27) : Prop := OkV x.f1.f2 ∧ OkV x.f1.f3
/-- Letters that are few and short. -/
def OkA (l : List S27) : Prop := l.length ≤ 1000 ∧ ∀ x ∈ l, OkL x
theorem OkV.short {l : List S37} (h : OkV l) : ∀ v ∈ l, v.f3.length ≤ 4611686018427387904 := fun v hv => by have := h.2 v hv; omega
theorem take_len {α : Type} (i : Nat) (l : List α) : (l.take i).length ≤ l.length := List.length_take_le' i l
theorem twin_loop (l : List S37) (h : OkV l) : ∀ d i : Nat, i + d = l.length → Ev (fun k => value_Twin.l0 k (l.take i) l (l.length : Int) (i : Int)) l := by
  have hl := h.1
  intro d
  induction d with
  | zero =>
    intro i hi
    refine Ev.step (fun k => by simp only [value_Twin.l0]; rfl) (Ev.neg (by omega) (Ev.val ?_))
    exact List.take_of_length_le (by omega)
  | succ d ih =>
    intro i hi
    have hlt : i < l.length := by omega
    have hs := h.2 _ (List.getElem_mem hlt)
    have next := ih (i + 1) (by omega)
    refine Ev.step (fun k => by simp only [value_Twin.l0]; rfl) (Ev.pos (by omega) (Ev.pos (by omega) (Ev.pos (by omega) ?_)))
    rw [rdT_at hlt, wr_succ hlt (by omega)]
    unfold slices_Clone_int64_int64.f
    rw [if_pos hs]
    refine Ev.bind (Ev.now _) (Ev.pos (by have := take_len i l; omega) ?_)
    rw [List.take_succ_eq_append_getElem hlt] at next
    exact next
theorem twin_ev (l : List S37) (h : OkV l) : Ev (fun k => value_Twin.f k l) l := by
  have := twin_loop l h l.length 0 (by omega)
  simpa [value_Twin.f] using this
theorem dtwin_ev (x : S27) (h : OkL x) : Ev (fun k => dead_twin.f k x.f0 x.f1.f0 x.f1.f1 x.f1.f2 x.f1.f3 x.f2) (x.f0, x.f1.f0, x.f1.f1, x.f1.f2, x.f1.f3, x.f2) :=
  Ev.bind (twin_ev _ h.1) (Ev.bind (twin_ev _ h.2) (Ev.now _))
theorem but_loop (p : S27 → Bool) (l : List S27) (h : OkA l) : ∀ d i : Nat, i + d = l.length → Ev (fun k => dead_but.l0 k p ((l.take i).filter fun x => !p x) l (l.length : Int) (i : Int)) (l.filter fun x => !p x) := by
  have hl := h.1
  intro d
  induction d with
  | zero =>
    intro i hi
    refine Ev.step (fun k => by simp only [dead_but.l0]; rfl) (Ev.neg (by omega) (Ev.val ?_))
    rw [List.take_of_length_le (by omega)]
  | succ d ih =>
    intro i hi
    have hlt : i < l.length := by omega
    have hs := h.2 _ (List.getElem_mem hlt)
    have next := ih (i + 1) (by omega)
    refine Ev.step (fun k => by simp only [dead_but.l0]; rfl) (Ev.pos (by omega) (Ev.pos (by omega) (Ev.pos (by omega) ?_)))
    rw [rd27_at hlt, wr_succ hlt (by omega)]
    unfold dead_clo.f
    rw [List.take_succ_eq_append_getElem hlt, List.filter_append] at next
    refine Ev.bind (Ev.now _) ?_
    by_cases hp : p l[i] = true
    · refine Ev.pos hp ?_
      rw [List.filter_cons_of_neg (by simp [hp]), List.filter_nil, List.append_nil] at next
      exact next
    · refine Ev.neg hp (Ev.bind (dtwin_ev _ hs) (Ev.pos ?_ ?_))
      · have h1 := List.length_filter_le (fun x => !p x) (l.take i)
        have h2 := take_len i l
        omega
      · rw [List.filter_cons_of_pos (by simp [hp]), List.filter_nil] at next
        exact next
theorem but_ev (p : S27 → Bool) (l : List S27) (h : OkA l) : Ev (fun k => dead_but.g k l p) (l.filter fun x => !p x) := by
  have := but_loop p l h l.length 0 (by omega)
  simpa [dead_but.g] using this
theorem but0_ev (l : List S27) (h : OkA l) : Ev (fun k => dead_but.f k l) l := by
  have := but_ev (fun _ => false) l h
  rw [List.filter_eq_self.2 (by simp)] at this
  exact this
theorem word_none (r : Int) : (wordB r).toList = ([] : List UInt8) ↔ r < 1 ∨ 5 < r := by
  have e : (wordB r).toList = wordL.getD r.toNat [] := mkS_toList _
  rw [e]
  have hl : wordL.length = 6 := rfl
  by_cases h : 1 ≤ r ∧ r ≤ 5
  · have : wordL.getD r.toNat [] ≠ [] := by
      obtain h | h | h | h | h : r = 1 ∨ r = 2 ∨ r = 3 ∨ r = 4 ∨ r = 5 := by omega
      all_goals subst h; decide
    constructor
    · intro hh; exact absurd hh this
    · omega
  · constructor
    · omega
    · intro _
      by_cases h0 : r.toNat = 0
      · rw [h0]; rfl
      · rw [List.getD_eq_getElem?_getD, List.getElem?_eq_none (by omega)]; rfl
theorem idx_none {l : List S27} {n : Int} (h : ∀ x ∈ l, x.f0 ≠ n) : idxOf l n = -1 := by
  unfold idxOf
  rw [if_neg]
  intro hlt
  exact h _ (List.getElem_mem hlt) (by simpa using List.findIdx_getElem (w := hlt))
theorem idx_cases (l : List S27) (n : Int) : (idxOf l n = -1 ∧ ∀ x ∈ l, x.f0 ≠ n) ∨ ∃ (i : Nat) (h : i < l.length), idxOf l n = (i : Int) ∧ l[i].f0 = n ∧ ∀ (j : Nat) (hj : j < l.length), j < i → l[j].f0 ≠ n := by
  by_cases h : ∀ x ∈ l, x.f0 ≠ n
  · exact Or.inl ⟨idx_none h, h⟩
  · refine Or.inr ?_
    have hex : ∃ x ∈ l, (fun x : S27 => x.f0 == n) x = true := by
      simp only [Classical.not_forall] at h
      obtain ⟨x, hx, hn⟩ := h
      exact ⟨x, hx, by simpa using hn⟩
    have hlt := List.findIdx_lt_length_of_exists hex
    refine ⟨_, hlt, ?_, by simpa using List.findIdx_getElem (w := hlt), fun j hj hji => by simpa using List.not_of_lt_findIdx hji⟩
    unfold idxOf
    rw [if_pos hlt]
/-- Is there one of that number? -/
def has (l : List S27) (n : Int) : Bool := l.any fun x => x.f0 == n
theorem has_iff (l : List S27) (n : Int) : has l n = true ↔ idxOf l n ≥ 0 := by
  unfold has
  rw [List.any_eq_true]
  rcases idx_cases l n with ⟨h, hn⟩ | ⟨i, hi, h, he, _⟩
  · rw [h]
    constructor
    · rintro ⟨x, hx, hh⟩; exact absurd (by simpa using hh) (hn x hx)
    · omega
  · rw [h]
    exact ⟨fun _ => by omega, fun _ => ⟨_, List.getElem_mem hi, by simpa using he⟩⟩
/-- One more, in plain words. -/
def putP (l : List S27) (x : S27) (most : Int) : List S27 × Int :=
  if x.f2 < 1 ∨ 5 < x.f2 then ([], 2) else if has l x.f0 = true then ([], 21) else if (l.length : Int) ≥ most then ([], 42) else (l ++ [x], 0)
theorem put_ev (l : List S27) (x : S27) (most : Int) (h : OkA l) (hx : OkL x) : Ev (fun k => dead_Put.f k l x.f0 x.f1.f0 x.f1.f1 x.f1.f2 x.f1.f3 x.f2 most) (putP l x most) := by
  have hl := h.1
  unfold dead_Put.f dead_Word.f putP
  refine Ev.bind (Ev.now _) ?_
  by_cases hw : x.f2 < 1 ∨ 5 < x.f2
  · rw [if_pos hw]
    exact Ev.pos ((word_none _).2 hw) (Ev.now _)
  · rw [if_neg hw]
    refine Ev.neg (fun hh => hw ((word_none _).1 hh)) ?_
    unfold dead_at.f
    rw [if_pos (by omega)]
    refine Ev.bind (Ev.now _) ?_
    by_cases hi : has l x.f0 = true
    · rw [if_pos hi]
      exact Ev.pos ((has_iff _ _).1 hi) (Ev.now _)
    · rw [if_neg hi]
      refine Ev.neg (fun hh => hi ((has_iff _ _).2 hh)) ?_
      by_cases hm : (l.length : Int) ≥ most
      · rw [if_pos hm]; exact Ev.pos hm (Ev.now _)
      · rw [if_neg hm]
        exact Ev.neg hm (Ev.bind (but0_ev l h) (Ev.bind (dtwin_ev x hx) (Ev.pos (by omega) (Ev.now _))))
/-- The first one of a number. -/
def findP (l : List S27) (n : Int) : Int × Int × ByteArray × (List S37) × (List S37) × Int × Bool :=
  match l.find? (fun x => x.f0 == n) with
  | some x => (x.f0, x.f1.f0, x.f1.f1, x.f1.f2, x.f1.f3, x.f2, true)
  | none => (0, 0, (⟨#[]⟩ : ByteArray), [], [], 0, false)
theorem find_at {l : List S27} {n : Int} {i : Nat} (hi : i < l.length) (he : l[i].f0 = n) (hlt : ∀ (j : Nat) (hj : j < l.length), j < i → l[j].f0 ≠ n) : l.find? (fun x => x.f0 == n) = some l[i] := by
  rw [List.find?_eq_some_iff_getElem]
  exact ⟨by simpa using he, i, hi, rfl, fun j hj => by simpa using hlt j (by omega) hj⟩
theorem find_none {l : List S27} {n : Int} (h : ∀ x ∈ l, x.f0 ≠ n) : l.find? (fun x => x.f0 == n) = none := by
  rw [List.find?_eq_none]
  exact fun x hx => by simpa using h x hx
theorem find_ev (l : List S27) (n : Int) (h : OkA l) : Ev (fun k => dead_Find.f k l n) (findP l n) := by
  have hl := h.1
  unfold dead_Find.f dead_at.f findP
  rw [if_pos (by omega)]
  refine Ev.bind (Ev.now _) ?_
  rcases idx_cases l n with ⟨hj, hn⟩ | ⟨i, hi, hj, he, hlt⟩
  · rw [find_none hn]
    exact Ev.pos (by omega) (Ev.now _)
  · rw [find_at hi he hlt, hj]
    refine Ev.neg (by omega) (Ev.pos (by omega) (Ev.pos (by omega) ?_))
    rw [rd27_at hi]
    exact Ev.bind (dtwin_ev _ (h.2 _ (List.getElem_mem hi))) (Ev.now _)
/-- Are letters few, and short? -/
def smallB (l : List S27) : Bool := l.all fun x => decide (l.length ≤ 100 ∧ x.f1.f2.length ≤ 30 ∧ x.f1.f3.length ≤ 30)
theorem small_loop (l : List S27) (h : l.length ≤ 4611686018427387904) : ∀ d i : Nat, i + d = l.length → Ev (fun k => switchyardlaw19_small.l0 k l l (l.length : Int) (i : Int)) ((l.drop i).all fun x => decide (l.length ≤ 100 ∧ x.f1.f2.length ≤ 30 ∧ x.f1.f3.length ≤ 30)) := by
  intro d
  induction d with
  | zero =>
    intro i hi
    refine Ev.step (fun k => by simp only [switchyardlaw19_small.l0]; rfl) (Ev.neg (by omega) (Ev.val ?_))
    rw [List.drop_eq_nil_of_le (by omega)]; rfl
  | succ d ih =>
    intro i hi
    have hlt : i < l.length := by omega
    have next := ih (i + 1) (by omega)
    refine Ev.step (fun k => by simp only [switchyardlaw19_small.l0]; rfl) (Ev.pos (by omega) (Ev.pos (by omega) (Ev.pos (by omega) ?_)))
    rw [rd27_at hlt, wr_succ hlt (by omega), List.drop_eq_getElem_cons hlt, List.all_cons]
    by_cases h1 : l.length ≤ 100
    · refine Ev.neg (by omega) ?_
      by_cases h2 : l[i].f1.f2.length ≤ 30
      · refine Ev.neg (by omega) ?_
        by_cases h3 : l[i].f1.f3.length ≤ 30
        · refine Ev.neg (by omega) ?_
          rw [decide_eq_true ⟨h1, h2, h3⟩]
          simpa using next
        · rw [decide_eq_false (fun hh => h3 hh.2.2)]
          exact Ev.pos (by omega) (Ev.now _)
      · rw [decide_eq_false (fun hh => h2 hh.2.1)]
        exact Ev.pos (by omega) (Ev.now _)
    · rw [decide_eq_false (fun hh => h1 hh.1)]
      exact Ev.pos (by omega) (Ev.now _)
theorem small_ev (l : List S27) (h : l.length ≤ 4611686018427387904) : Ev (fun k => switchyardlaw19_small.f k l) (smallB l) := by
  have := small_loop l h l.length 0 (by omega)
  simpa [switchyardlaw19_small.f, smallB] using this
theorem mail_ev (x y : S27) (h : OkL x) : Ev (fun k => switchyardref13_SameMail.f k x.f1.f0 x.f1.f1 x.f1.f2 x.f1.f3 y.f1.f0 y.f1.f1 y.f1.f2 y.f1.f3) (decide (x.f1 = y.f1)) := by
  obtain ⟨x0, ⟨a, b, c, d⟩, x2⟩ := x
  obtain ⟨y0, ⟨a', b', c', d'⟩, y2⟩ := y
  unfold switchyardref13_SameMail.f
  simp only
  have e : decide ((⟨a, b, c, d⟩ : S25) = ⟨a', b', c', d'⟩) = (decide (a = a') && (decide (b = b') && (decide (c = c') && decide (d = d')))) := by
    rw [Bool.eq_iff_iff]
    simp only [S25.mk.injEq, decide_eq_true_eq, Bool.and_eq_true]
  rw [e]
  by_cases h1 : a = a'
  · refine Ev.pos h1 ?_
    by_cases h2 : b = b'
    · refine Ev.pos (by rw [h2]) (Ev.bind (sameAll_ev c c' (by have := h.1.1; simp only at this; omega) h.1.short) ?_)
      by_cases h3 : c = c'
      · refine Ev.pos (by simpa using h3) (Ev.bind (sameAll_ev d d' (by have := h.2.1; simp only at this; omega) h.2.short) (Ev.val ?_))
        simp [h1, h2, h3]
      · refine Ev.neg (by simpa using h3) (Ev.val ?_)
        simp [h3]
    · refine Ev.neg (fun hh => h2 ((str_eq_iff _ _).1 hh)) (Ev.val ?_)
      simp [h2]
  · refine Ev.neg h1 (Ev.val ?_)
    simp [h1]
theorem sdead_ev (x y : S27) (h : OkL x) : Ev (fun k => switchyardref13_SameDead.f k x.f0 x.f1.f0 x.f1.f1 x.f1.f2 x.f1.f3 x.f2 y.f0 y.f1.f0 y.f1.f1 y.f1.f2 y.f1.f3 y.f2) (decide (x = y)) := by
  unfold switchyardref13_SameDead.f
  have e : decide (x = y) = (decide (x.f0 = y.f0) && (decide (x.f2 = y.f2) && decide (x.f1 = y.f1))) := by
    obtain ⟨x0, x1, x2⟩ := x
    obtain ⟨y0, y1, y2⟩ := y
    rw [Bool.eq_iff_iff]
    simp only [S27.mk.injEq, decide_eq_true_eq, Bool.and_eq_true]
    constructor
    · rintro ⟨a, b, c⟩; exact ⟨a, c, b⟩
    · rintro ⟨a, b, c⟩; exact ⟨a, c, b⟩
  rw [e]
  by_cases h1 : x.f0 = y.f0
  · refine Ev.pos h1 ?_
    by_cases h2 : x.f2 = y.f2
    · refine Ev.pos h2 (Ev.bind (mail_ev x y h) (Ev.val ?_))
      simp [h1, h2]
    · refine Ev.neg h2 (Ev.val ?_)
      simp [h2]
  · refine Ev.neg h1 (Ev.val ?_)
    simp [h1]
theorem same_loop19 (l m : List S27) (h : OkA l) (he : l.length = m.length) : ∀ d i : Nat, i + d = l.length → Ev (fun k => switchyardlaw19_Same.l0 k l m (l.length : Int) (i : Int)) (decide (l.drop i = m.drop i)) := by
  have hl := h.1
  intro d
  induction d with
  | zero =>
    intro i hi
    refine Ev.step (fun k => by simp only [switchyardlaw19_Same.l0]; rfl) (Ev.neg (by omega) (Ev.val ?_))
    rw [List.drop_eq_nil_of_le (show l.length ≤ i by omega), List.drop_eq_nil_of_le (show m.length ≤ i by omega)]; simp
  | succ d ih =>
    intro i hi
    have hlt : i < l.length := by omega
    have hml : i < m.length := by omega
    refine Ev.step (fun k => by simp only [switchyardlaw19_Same.l0]; rfl) (Ev.pos (by omega) (Ev.pos (by omega) (Ev.pos (by omega) (Ev.pos (by omega) ?_))))
    rw [rd27_at hlt, rd27_at hml, wr_succ hlt (by omega)]
    refine Ev.bind (sdead_ev _ _ (h.2 _ (List.getElem_mem hlt))) ?_
    rw [List.drop_eq_getElem_cons hlt, List.drop_eq_getElem_cons hml]
    by_cases h : l[i] = m[i]
    · rw [decide_eq_true h]
      have e : decide (l[i] :: l.drop (i + 1) = m[i] :: m.drop (i + 1)) = decide (l.drop (i + 1) = m.drop (i + 1)) := by
        rw [decide_eq_decide, h]; simp only [List.cons.injEq, true_and]
      rw [e]
      exact Ev.pos rfl (ih (i + 1) (by omega))
    · rw [decide_eq_false h]
      have e : decide (l[i] :: l.drop (i + 1) = m[i] :: m.drop (i + 1)) = false := by rw [decide_eq_false_iff_not]; intro hh; exact h (List.cons.inj hh).1
      rw [e]
      exact Ev.neg (by simp) (Ev.now _)
theorem same19_ev (l m : List S27) (h : OkA l) : Ev (fun k => switchyardlaw19_Same.f k l m) (decide (l = m)) := by
  unfold switchyardlaw19_Same.f
  by_cases he : l.length = m.length
  · refine Ev.pos (by omega) ?_
    have := same_loop19 l m h he l.length 0 (by omega)
    simpa using this
  · refine Ev.neg (by omega) (Ev.val ?_)
    rw [eq_comm, decide_eq_false_iff_not]; intro h; exact he (by rw [h])
theorem awake_ev : Ev (fun k => switchyardlaw19_awake.f k) true := by
  have o : OkA [] := ⟨by simp, by simp⟩
  have ov : OkV [] := ⟨by simp, by simp⟩
  unfold switchyardlaw19_awake.f
  refine Ev.bind (put_ev [] ⟨1, ⟨0, ⟨#[]⟩, [], []⟩, 5⟩ 0 o ⟨ov, ov⟩) ?_
  refine Ev.bind (put_ev [] ⟨1, ⟨9, ⟨#[]⟩, [], []⟩, 5⟩ 1 o ⟨ov, ov⟩) ?_
  have e0 : putP [] ⟨1, ⟨0, ⟨#[]⟩, [], []⟩, 5⟩ 0 = ([], 42) := by rfl
  have e1 : putP [] ⟨1, ⟨9, ⟨#[]⟩, [], []⟩, 5⟩ 1 = ([⟨1, ⟨9, ⟨#[]⟩, [], []⟩, 5⟩], 0) := by rfl
  rw [e0, e1]
  refine Ev.bind (find_ev [⟨1, ⟨9, ⟨#[]⟩, [], []⟩, 5⟩] 1 ⟨by simp, fun x hx => by rw [List.mem_singleton.1 hx]; exact ⟨ov, ov⟩⟩) ?_
  have e2 : findP [⟨1, ⟨9, ⟨#[]⟩, [], []⟩, 5⟩] 1 = (1, 9, ⟨#[]⟩, [], [], 5, true) := by rfl
  rw [e2]
  refine Ev.pos rfl (Ev.pos rfl (Ev.pos rfl (Ev.pos rfl ?_)))
  unfold dead_Word.f
  refine Ev.bind (Ev.now _) (Ev.val ?_)
  have : (wordB 4).toList = ([111, 118, 101, 114] : List UInt8) := mkS_toList _
  rw [this]; rfl
end Go.Proofs.YtknbebjphjpgpaaDoor.XD
namespace Go.Proofs.YtknbebjphjpgpaaDoor.XD
open Go.RowKit Go.Proofs.YtknbebjphjpgpaaDoorW.PrintWords Go.Proofs.YtknbebjphjpgpaaDoorW.PrintLast Go.Proofs.YtknbebjphjpgpaaDoorW.PrintMore
set_option linter.unusedVariables false
set_option linter.unusedSimpArgs false
theorem heap37 : Kd.Heap k37 := Kd.heap_iso _ (Kd.heap_pair (Kd.heap_int _) (Kd.heap_pair (Kd.heap_int _) (Kd.heap_pair Kd.heap_string (Kd.heap_slice _ (Kd.heap_int _)))))
theorem okV_of {l : List S37} (hl : l.length ≤ 30) (h : ∀ v ∈ l, G37 v) : OkV l := by
  refine ⟨hl, fun v hv => ?_⟩
  cases h v hv with
  | mk h0 h1 h2 h3a h3b h3 =>
    have e : Tryd.prog.bytesOf 2 = 8 := by kernel_rfl
    rw [e] at h3a; omega
theorem okL_of {x : S27} (h2 : x.f1.f2.length ≤ 30) (h3 : x.f1.f3.length ≤ 30) (h : G27 x) : OkL x := by
  cases h with
  | mk g0 g1 g2 => cases g1 with
    | mk a0 a1 a2a a2b a2 a3a a3b a3 => exact ⟨okV_of h2 a2, okV_of h3 a3⟩
theorem okA_of {l : List S27} (h : ∀ x ∈ l, G27 x) (hs : smallB l = true) : OkA l ∧ l.length ≤ 100 := by
  unfold smallB at hs
  rw [List.all_eq_true] at hs
  have hl : l.length ≤ 100 := by
    cases l with
    | nil => simp
    | cons y l => exact (of_decide_eq_true (hs y List.mem_cons_self)).1
  exact ⟨⟨by omega, fun x hx => okL_of (of_decide_eq_true (hs x hx)).2.1 (of_decide_eq_true (hs x hx)).2.2 (h x hx)⟩, hl⟩
theorem okX_of {x : S27} (h2 : ∀ v ∈ x.f1.f2, G37 v) (h3 : ∀ v ∈ x.f1.f3, G37 v) (hs : smallB [x] = true) : OkL x := by
  unfold smallB at hs
  rw [List.all_eq_true] at hs
  have := of_decide_eq_true (hs x List.mem_cons_self)
  exact ⟨okV_of this.2.1 h2, okV_of this.2.2 h3⟩
theorem okA_snoc {l : List S27} {x : S27} (h : OkA l) (hl : l.length ≤ 100) (hx : OkL x) : OkA (l ++ [x]) := by
  refine ⟨by simp; omega, fun y hy => ?_⟩
  rcases List.mem_append.1 hy with hy | hy
  · exact h.2 y hy
  · rw [List.mem_singleton.1 hy]; exact hx
theorem okA_put {l : List S27} {x : S27} {most : Int} (h : OkA l) (hl : l.length ≤ 100) (hx : OkL x) : OkA (putP l x most).1 := by
  unfold putP
  split
  · exact ⟨by simp, by simp⟩
  · split
    · exact ⟨by simp, by simp⟩
    · split
      · exact ⟨by simp, by simp⟩
      · exact okA_snoc h hl hx
theorem len27 {l : List S27} (h : l.length * Tryd.prog.bytesOf 27 ≤ 140737488351232) : l.length ≤ 4611686018427387904 := by
  have e : Tryd.prog.bytesOf 27 = 88 := by kernel_rfl
  rw [e] at h; omega
/-- A slice that came in, told as one that leads to what stood there. -/
theorem came {α : Type} {d : Kd α} (e : Nat) (hd : Kd.Heap d) {W : World} {A : Option Addr} {c : Nat} {l : List α} (h : Kd.C d W A l.length l) (hc : l.length ≤ c) : Kd.V d e W W.heap.size (fun k => k < W.heap.size) (.slice A l.length c) l := Kd.V_mk hc (Kd.C_F hd h)
end Go.Proofs.YtknbebjphjpgpaaDoor.XD
namespace Go.Proofs.YtknbebjphjpgpaaDoor.XD
open Go.RowKit Go.Proofs.YtknbebjphjpgpaaDoorW.PrintWords Go.Proofs.YtknbebjphjpgpaaDoorW.PrintLast Go.Proofs.YtknbebjphjpgpaaDoorW.PrintMore
set_option linter.unusedVariables false
set_option linter.unusedSimpArgs false
def switchyardlaw19_DeadOwn.j0 : Nat → List (S27) → Bool → Int → Int → ByteArray → List (S37) → List (S37) → Int → Option (Bool)
  | 0, _, _, _, _, _, _, _, _ => none
  | k + 1, x0, x31, x190000, x190001, x190002, x190003, x190004, x190005 => if x31 = true then ((switchyardlaw19_awake.f k).bind fun t196 => (some t196)) else ((dead_Put.f k x0 x190000 x190001 x190002 x190003 x190004 1 (wrap64 ((x0.length : Int) + 1))).bind fun bt197 => ((dead_Put.f k x0 x190000 x190001 x190002 x190003 x190004 1 (wrap64 ((x0.length : Int) + 1))).bind fun bt201 => (if 0 < (x0.length : Int) then ((dead_Find.f k x0 ((rd_T27 x0 0).f0)).bind fun bt206 => ((dead_Put.f k x0 x190000 x190001 x190002 x190003 x190004 1 (wrap64 ((x0.length : Int) + 1))).bind fun bt218 => ((switchyardlaw19_awake.f k).bind fun t222 => (if t222 = true then (if bt197.2 = bt201.2 then (if bt201.2 = bt218.2 then ((switchyardlaw19_Same.f k bt197.1 bt218.1).bind fun t223 => (some t223)) else (none)) else (none)) else (none))))) else (none))))
def switchyardlaw19_DeadOwn.f (k : Nat) (l0 : List (S27)) (a1_0 : Int) (a1_1 : Int) (a1_2 : ByteArray) (l1_3 : List (S37)) (l1_4 : List (S37)) (a1_5 : Int) : Option (Bool) := (switchyardlaw19_awake.f k).bind fun t190 => (if t190 = true then ((switchyardlaw19_small.f k l0).bind fun t191 => (if t191 = true then ((switchyardlaw19_small.f k (([(⟨a1_0, (⟨a1_1, a1_2, l1_3, l1_4⟩ : S25), a1_5⟩ : S27)] : List (S27)))).bind fun t195 => (if t195 = true then (switchyardlaw19_DeadOwn.j0 k l0 ((l0.length : Int) == 0) a1_0 a1_1 a1_2 l1_3 l1_4 a1_5) else (switchyardlaw19_DeadOwn.j0 k l0 true a1_0 a1_1 a1_2 l1_3 l1_4 a1_5))) else (switchyardlaw19_DeadOwn.j0 k l0 true a1_0 a1_1 a1_2 l1_3 l1_4 a1_5))) else (none))
set_option maxHeartbeats 600000 in
set_option maxRecDepth 100000 in
theorem switchyardlaw19_DeadOwn.calls (k : Nat) (A0 : Option Addr) (c0 : Nat) (l0 : List (S27)) (a1_0 : Int) (a1_1 : Int) (a1_2 : ByteArray) (P1_3_ : Nat → Prop) (A1_3 : Option Addr) (c1_3 : Nat) (l1_3 : List (S37)) (P1_4_ : Nat → Prop) (A1_4 : Option Addr) (c1_4 : Nat) (l1_4 : List (S37)) (a1_5 : Int) (hlen : ∀ k r1 r2, dead_Put.f k l0 a1_0 a1_1 a1_2 l1_3 l1_4 1 (wrap64 ((l0.length : Int) + 1)) = some (r1, r2) → r1.length ≤ 1599289640400) (r : Bool) (w : World) (hr0 : Kd.C k27 w A0 l0.length l0) (hc0 : l0.length ≤ c0) (hs1_3 : Kd.V k37 37 w w.heap.size (fun k_ => P1_3_ k_) (.slice A1_3 l1_3.length c1_3) l1_3) (hs1_4 : Kd.V k37 37 w w.heap.size (fun k_ => P1_4_ k_) (.slice A1_4 l1_4.length c1_4) l1_4) (h : switchyardlaw19_DeadOwn.f k l0 a1_0 a1_1 a1_2 l1_3 l1_4 a1_5 = some r) (hT : Tabs w) :
    Calls Tryd.prog 3 #[.slice A0 l0.length c0, .agg #[.int .i64 a1_0, .int .i64 a1_1, .string a1_2, .slice A1_3 l1_3.length c1_3, .slice A1_4 l1_4.length c1_4, .int .i64 a1_5]] w fun e w' => e = .returned (.bool r) ∧ Below w.heap.size w w' := by
  have HLn := Aside0.mk hlen
  clear hlen
  have HT := Aside0.mk hT
  clear hT
  have hu27 := Tryd.underlying27
  have hu25 := Tryd.underlying25
  have HR0 := Aside0.mk hr0
  have HC0 := Aside0.mk hc0
  clear hr0 hc0
  have HO1_3 := Aside0.mk (show Kd.V k37 37 w w.heap.size (fun k_ => ((P1_3_ k_ ∨ P1_4_ k_) ∨ w.heap.size ≤ k_)) (.slice A1_3 l1_3.length c1_3) l1_3 from Kd.V_mono hs1_3 (fun k_ hk => .inl (.inl hk)))
  have HO1_4 := Aside0.mk (show Kd.V k37 37 w w.heap.size (fun k_ => ((P1_3_ k_ ∨ P1_4_ k_) ∨ w.heap.size ≤ k_)) (.slice A1_4 l1_4.length c1_4) l1_4 from Kd.V_mono hs1_4 (fun k_ hk => .inl (.inr hk)))
  have HB := Aside0.mk (Below.refl w.heap.size w)
  have H : ((switchyardlaw19_awake.f k).bind fun t190 => (if t190 = true then ((switchyardlaw19_small.f k l0).bind fun t191 => (if t191 = true then ((switchyardlaw19_small.f k (([(⟨a1_0, (⟨a1_1, a1_2, l1_3, l1_4⟩ : S25), a1_5⟩ : S27)] : List (S27)))).bind fun t195 => (if t195 = true then (switchyardlaw19_DeadOwn.j0 k l0 ((l0.length : Int) == 0) a1_0 a1_1 a1_2 l1_3 l1_4 a1_5) else (switchyardlaw19_DeadOwn.j0 k l0 true a1_0 a1_1 a1_2 l1_3 l1_4 a1_5))) else (switchyardlaw19_DeadOwn.j0 k l0 true a1_0 a1_1 a1_2 l1_3 l1_4 a1_5))) else (none))) = some r := h
  clear h
  replace H := Option.bind_eq_some_iff.mp H
  obtain ⟨t190, A30, H⟩ := H
  replace H : (if t190 = true then ((switchyardlaw19_small.f k l0).bind fun t191 => (if t191 = true then ((switchyardlaw19_small.f k (([(⟨a1_0, (⟨a1_1, a1_2, l1_3, l1_4⟩ : S25), a1_5⟩ : S27)] : List (S27)))).bind fun t195 => (if t195 = true then (switchyardlaw19_DeadOwn.j0 k l0 ((l0.length : Int) == 0) a1_0 a1_1 a1_2 l1_3 l1_4 a1_5) else (switchyardlaw19_DeadOwn.j0 k l0 true a1_0 a1_1 a1_2 l1_3 l1_4 a1_5))) else (switchyardlaw19_DeadOwn.j0 k l0 true a1_0 a1_1 a1_2 l1_3 l1_4 a1_5))) else (none)) = some r := H
  have A3 := Aside0.mk A30
  clear A30
  by_cases c4 : t190 = true
  · subst c4
    have H1 : ((switchyardlaw19_small.f k l0).bind fun t191 => (if t191 = true then ((switchyardlaw19_small.f k (([(⟨a1_0, (⟨a1_1, a1_2, l1_3, l1_4⟩ : S25), a1_5⟩ : S27)] : List (S27)))).bind fun t195 => (if t195 = true then (switchyardlaw19_DeadOwn.j0 k l0 ((l0.length : Int) == 0) a1_0 a1_1 a1_2 l1_3 l1_4 a1_5) else (switchyardlaw19_DeadOwn.j0 k l0 true a1_0 a1_1 a1_2 l1_3 l1_4 a1_5))) else (switchyardlaw19_DeadOwn.j0 k l0 true a1_0 a1_1 a1_2 l1_3 l1_4 a1_5))) = some r := by rw [if_pos rfl] at H; exact H
    clear H
    have H := H1
    clear H1
    have HC5 := Aside0.mk H
    clear H
    go_enter Tryd.func3, Tryd.ntmps3
    go_upto_region 3 with (first | ((with_reducible refine gate_dst (N := 3) rfl ?_); (try (refine gate_guard (by rfl) ?_; dsimp only)); refine box_event ?hg (N := 3) ?hd (cs := #[.int .i64 a1_0, .int .i64 a1_1, .string a1_2, .slice A1_3 l1_3.length c1_3, .slice A1_4 l1_4.length c1_4, .int .i64 a1_5]) (t := 27) ?hr ?_; (case hd => rfl); (case hg => rfl); (case hr => first | (go_simp; done) | (go_simp; rfl)); intro gb189 hg w6 hbox hb; have n0_ := Aside0.mk (Kd.V_below (Kd.V_elderB (by (with_reducible repeat (first | apply Kd.V_alloc | apply Kd.V_drewN | apply Kd.V_drew)); exact HO1_3.out) gb189 (Nat.le_of_eq hg.symm)) hb); have n1_ := Aside0.mk (Kd.V_below (Kd.V_elderB (by (with_reducible repeat (first | apply Kd.V_alloc | apply Kd.V_drewN | apply Kd.V_drew)); exact HO1_4.out) gb189 (Nat.le_of_eq hg.symm)) hb); have n2_ := Aside0.mk (below_step (by repeat (first | (with_reducible first | exact HB.out | apply below_alloc | apply pw_below_drewN | apply below_drew1) | exact HB.out)) hb); have n3_ := Aside0.mk (hbox); have n4_ := Aside0.mk ((by rw [hg]; exact (below_size (by repeat (first | (with_reducible first | exact HB.out | apply below_alloc | apply pw_below_drewN | apply below_drew1) | exact HB.out))) : w.heap.size ≤ gb189)); have n5_ := Aside0.mk ((by rw [hg]; exact (below_size (by repeat (first | (with_reducible first | exact HB.out | apply below_alloc | apply pw_below_drewN | apply below_drew1) | exact HB.out))) : w.heap.size ≤ gb189)); clear HO1_3; clear HO1_4; clear HB; have HO1_3 := n0_; have HO1_4 := n1_; have HB := n2_; have BK189 := n3_; have GW189 := n4_; have GE189 := n5_; clear n0_ n1_ n2_ n3_ n4_ n5_; clear hb hbox hg) | ((with_reducible refine gate_callee (f := 7) rfl ?_); refine goesL_ (some 16) rfl rfl Tryd.func7 (by kernel_rfl) rfl #[] rfl (by (try simp only [List.map_toArray, List.map_cons, List.map_nil]); first | done | rfl | (simp only [List.length_drop, List.length_take]; rfl)) ?_; (with_reducible refine (switchyardlaw19_awake.calls k  true _ A3.out (Tabs.below HT.out (by repeat (first | (with_reducible first | exact HB.out | apply below_alloc | apply pw_below_drewN | apply below_drew1 | refine below_set ?_ GE189.out) | exact HB.out)))).mono ?_); rintro e w7 ⟨rfl, hb⟩; refine ⟨_, rfl, ?_⟩; have n0_ := Aside0.mk (Kd.V_below (by (with_reducible repeat (first | apply Kd.V_alloc | apply Kd.V_drewN | apply Kd.V_drew)); exact HO1_3.out) hb); have n1_ := Aside0.mk (Kd.V_below (by (with_reducible repeat (first | apply Kd.V_alloc | apply Kd.V_drewN | apply Kd.V_drew)); exact HO1_4.out) hb); have n2_ := Aside0.mk (blk_below (g := gb189) (o := .cells #[.int .i64 a1_0, .int .i64 a1_1, .string a1_2, .slice A1_3 l1_3.length c1_3, .slice A1_4 l1_4.length c1_4, .int .i64 a1_5] 27 (0, 0)) (by (with_reducible repeat (first | refine blk_drewN ?_ _ | refine blk_drew ?_ | refine blk_alloc ?_ _)); exact BK189.out) hb); have n3_ := Aside0.mk (below_step (by repeat (first | (with_reducible first | exact HB.out | apply below_alloc | apply pw_below_drewN | apply below_drew1 | refine below_set ?_ GE189.out) | exact HB.out)) hb); clear HO1_3; clear HO1_4; clear BK189; clear HB; have HO1_3 := n0_; have HO1_4 := n1_; have BK189 := n2_; have HB := n3_; clear n0_ n1_ n2_ n3_; (try clear hb); (try clear hb2); (try clear hk); (try clear hi)))
    (try simp only [Act.put, List.setIfInBounds_toArray, List.set_cons_zero, List.set_cons_succ])
    go_cut [31] (fun v31 wc => ∃ (kq : Nat) (x31_4 : Bool), v31 = .bool x31_4 ∧ Aside0 (switchyardlaw19_DeadOwn.j0 kq l0 x31_4 a1_0 a1_1 a1_2 l1_3 l1_4 a1_5 = some r) ∧ Aside0 (kq ≤ k) ∧ Aside0 (Kd.V k37 37 wc w.heap.size (fun k_ => ((P1_3_ k_ ∨ P1_4_ k_) ∨ w.heap.size ≤ k_) ∧ k_ ≠ gb189) (.slice A1_3 l1_3.length c1_3) l1_3) ∧ Aside0 (Kd.V k37 37 wc w.heap.size (fun k_ => ((P1_3_ k_ ∨ P1_4_ k_) ∨ w.heap.size ≤ k_) ∧ k_ ≠ gb189) (.slice A1_4 l1_4.length c1_4) l1_4) ∧ Aside0 (wc.heap[gb189]? = some (.cells #[.int .i64 a1_0, .int .i64 a1_1, .string a1_2, (.slice A1_3 l1_3.length c1_3), (.slice A1_4 l1_4.length c1_4), .int .i64 a1_5] 27 (0, 0))) ∧ Aside0 (Below w.heap.size w wc))
    case first =>
      have H := HC5.out
      clear HC5
      replace H := Option.bind_eq_some_iff.mp H
      obtain ⟨t191, A80, H⟩ := H
      replace H : (if t191 = true then ((switchyardlaw19_small.f k (([(⟨a1_0, (⟨a1_1, a1_2, l1_3, l1_4⟩ : S25), a1_5⟩ : S27)] : List (S27)))).bind fun t195 => (if t195 = true then (switchyardlaw19_DeadOwn.j0 k l0 ((l0.length : Int) == 0) a1_0 a1_1 a1_2 l1_3 l1_4 a1_5) else (switchyardlaw19_DeadOwn.j0 k l0 true a1_0 a1_1 a1_2 l1_3 l1_4 a1_5))) else (switchyardlaw19_DeadOwn.j0 k l0 true a1_0 a1_1 a1_2 l1_3 l1_4 a1_5)) = some r := H
      have A8 := Aside0.mk A80
      clear A80
      by_cases c9 : t191 = true
      · subst c9
        have H1 : ((switchyardlaw19_small.f k (([(⟨a1_0, (⟨a1_1, a1_2, l1_3, l1_4⟩ : S25), a1_5⟩ : S27)] : List (S27)))).bind fun t195 => (if t195 = true then (switchyardlaw19_DeadOwn.j0 k l0 ((l0.length : Int) == 0) a1_0 a1_1 a1_2 l1_3 l1_4 a1_5) else (switchyardlaw19_DeadOwn.j0 k l0 true a1_0 a1_1 a1_2 l1_3 l1_4 a1_5))) = some r := by rw [if_pos rfl] at H; exact H
        clear H
        have H := H1
        clear H1
        obtain ⟨y192, hy192⟩ : ∃ y_ : List (S27), y_ = (([(⟨a1_0, (⟨a1_1, a1_2, l1_3, l1_4⟩ : S25), a1_5⟩ : S27)] : List (S27))) := ⟨_, rfl⟩
        replace H : ((switchyardlaw19_small.f k y192).bind fun t195 => (if t195 = true then (switchyardlaw19_DeadOwn.j0 k l0 ((l0.length : Int) == 0) a1_0 a1_1 a1_2 l1_3 l1_4 a1_5) else (switchyardlaw19_DeadOwn.j0 k l0 true a1_0 a1_1 a1_2 l1_3 l1_4 a1_5))) = some r := by first | (rw [hy192]; with_reducible exact H) | (have H2_ := (Option.bind_some _ _).symm.trans H; rw [hy192]; with_reducible exact H2_) | (have H2_ := (Option.bind_some _ _).symm.trans H; with_reducible exact H2_) | with_reducible exact H | (rw [hy192]; exact H) | exact H
        have Ny192 := Aside0.mk hy192
        clear hy192
        replace H := Option.bind_eq_some_iff.mp H
        obtain ⟨t195, A100, H⟩ := H
        replace H : (if t195 = true then (switchyardlaw19_DeadOwn.j0 k l0 ((l0.length : Int) == 0) a1_0 a1_1 a1_2 l1_3 l1_4 a1_5) else (switchyardlaw19_DeadOwn.j0 k l0 true a1_0 a1_1 a1_2 l1_3 l1_4 a1_5)) = some r := H
        have A10 := Aside0.mk A100
        clear A100
        by_cases c11 : t195 = true
        · subst c11
          have H1 : (switchyardlaw19_DeadOwn.j0 k l0 ((l0.length : Int) == 0) a1_0 a1_1 a1_2 l1_3 l1_4 a1_5) = some r := by rw [if_pos rfl] at H; exact H
          clear H
          have H := H1
          clear H1
          have H' := Aside0.mk H
          clear H
          go_wp2_with (first | ((with_reducible refine gate_callee (f := 8) rfl ?_); refine goesL_ (some 19) rfl rfl Tryd.func8 (by kernel_rfl) rfl #[.slice A0 l0.length c0] rfl (by (try simp only [List.map_toArray, List.map_cons, List.map_nil]); first | done | rfl | (simp only [List.length_drop, List.length_take]; rfl)) ?_; (with_reducible refine (switchyardlaw19_small.calls k _ _ l0 true _ ?side1 ?side2 A8.out).mono ?_); (case side1 => repeat (first | exact (Kd.C_below HR0.out HB.out) | (with_reducible refine Kd.C_alloc ?_ _) | (with_reducible refine Kd.C_drewN ?_ _) | (with_reducible refine Kd.C_drew ?_))); (case side2 => exact HC0.out); rintro e w12 ⟨rfl, hb⟩; refine ⟨_, rfl, ?_⟩; have n0_ := Aside0.mk (Kd.V_below (by (with_reducible repeat (first | apply Kd.V_alloc | apply Kd.V_drewN | apply Kd.V_drew)); exact HO1_3.out) hb); have n1_ := Aside0.mk (Kd.V_below (by (with_reducible repeat (first | apply Kd.V_alloc | apply Kd.V_drewN | apply Kd.V_drew)); exact HO1_4.out) hb); have n2_ := Aside0.mk (blk_below (g := gb189) (o := .cells #[.int .i64 a1_0, .int .i64 a1_1, .string a1_2, .slice A1_3 l1_3.length c1_3, .slice A1_4 l1_4.length c1_4, .int .i64 a1_5] 27 (0, 0)) (by (with_reducible repeat (first | refine blk_drewN ?_ _ | refine blk_drew ?_ | refine blk_alloc ?_ _)); exact BK189.out) hb); have n3_ := Aside0.mk (below_step (by repeat (first | (with_reducible first | exact HB.out | apply below_alloc | apply pw_below_drewN | apply below_drew1 | refine below_set ?_ GE189.out) | exact HB.out)) hb); clear HO1_3; clear HO1_4; clear BK189; clear HB; have HO1_3 := n0_; have HO1_4 := n1_; have BK189 := n2_; have HB := n3_; clear n0_ n1_ n2_ n3_; (try clear hb); (try clear hb2); (try clear hk); (try clear hi); have hcz13_0 : w12.cell? ⟨gb189, 0, none⟩ = some (.int .i64 a1_0) := (blk_cell BK189.out 0).trans rfl; have hcz13_1 : w12.cell? ⟨gb189, 1, none⟩ = some (.int .i64 a1_1) := (blk_cell BK189.out 1).trans rfl; have hcz13_2 : w12.cell? ⟨gb189, 2, none⟩ = some (.string a1_2) := (blk_cell BK189.out 2).trans rfl; have hcz13_3 : w12.cell? ⟨gb189, 3, none⟩ = some (.slice A1_3 l1_3.length c1_3) := (blk_cell BK189.out 3).trans rfl; have hcz13_4 : w12.cell? ⟨gb189, 4, none⟩ = some (.slice A1_4 l1_4.length c1_4) := (blk_cell BK189.out 4).trans rfl; have hcz13_5 : w12.cell? ⟨gb189, 5, none⟩ = some (.int .i64 a1_5) := (blk_cell BK189.out 5).trans rfl; have hfz13_0 := blk_frozen BK189.out 0; have hfz13_1 := blk_frozen BK189.out 1; have hfz13_2 := blk_frozen BK189.out 2; have hfz13_3 := blk_frozen BK189.out 3; have hfz13_4 := blk_frozen BK189.out 4; have hfz13_5 := blk_frozen BK189.out 5) | ((with_reducible refine gate_dst (N := 23) rfl ?_); (try (refine gate_guard (by rfl) ?_; dsimp only)); refine Kd.N_lit k27 _ 27 ?hg (N' := 23) ?hd (xs := ([(⟨a1_0, (⟨a1_1, a1_2, l1_3, l1_4⟩ : S25), a1_5⟩ : S27)] : List (S27))) (inner := [.int .i64 a1_0, .int .i64 a1_1, .string a1_2, .slice A1_3 l1_3.length c1_3, .slice A1_4 l1_4.length c1_4, .int .i64 a1_5]) (ok := (fun k_ => ((P1_3_ k_ ∨ P1_4_ k_) ∨ w.heap.size ≤ k_) ∧ k_ ≠ gb189)) (okp := (fun k_ => ((P1_3_ k_ ∨ P1_4_ k_) ∨ w.heap.size ≤ k_) ∧ k_ ≠ gb189)) ?hr ?hp (fun _ hk => hk) ((show ∀ k_, w12.heap.size ≤ k_ → (fun k_ => ((P1_3_ k_ ∨ P1_4_ k_) ∨ w.heap.size ≤ k_) ∧ k_ ≠ gb189) k_ from fun k_ hk => ⟨(.inr (Nat.le_trans (below_size (by repeat (first | (with_reducible first | exact HB.out | apply below_alloc | apply pw_below_drewN | apply below_drew1 | refine below_set ?_ GE189.out) | exact HB.out))) hk)), Kd.freshB (g := gb189) (o := .cells #[.int .i64 a1_0, .int .i64 a1_1, .string a1_2, .slice A1_3 l1_3.length c1_3, .slice A1_4 l1_4.length c1_4, .int .i64 a1_5] 27 (0, 0)) (by (with_reducible repeat (first | refine blk_drewN ?_ _ | refine blk_drew ?_ | refine blk_alloc ?_ _)); exact BK189.out) k_ hk⟩) _ (Nat.le_refl _)) (Below.refl _ _) (Nat.le_refl _) (by simp) ?_; (case hd => rfl); (case hg => rfl); (case hr => first | (go_simp; done) | (go_simp; rfl)); (case hp => exact (Reps.c6 (show Kd.FK k27 _ _ (⟨a1_0, (⟨a1_1, a1_2, l1_3, l1_4⟩ : S25), a1_5⟩ : S27) [.int .i64 a1_0, .int .i64 a1_1, .string a1_2, .slice A1_3 l1_3.length c1_3, .slice A1_4 l1_4.length c1_4, .int .i64 a1_5] from (k27_mkF _ _ (⟨a1_0, (⟨a1_1, a1_2, l1_3, l1_4⟩ : S25), a1_5⟩ : S27) (Kd.V_reads' (Kd.V_mono (ok' := (fun k_ => ((P1_3_ k_ ∨ P1_4_ k_) ∨ w.heap.size ≤ k_) ∧ k_ ≠ gb189)) (HO1_3.out) (fun k_ hk => ⟨hk.1, hk.2⟩))).2.1 (Kd.V_F (Kd.V_mono (ok' := (fun k_ => ((P1_3_ k_ ∨ P1_4_ k_) ∨ w.heap.size ≤ k_) ∧ k_ ≠ gb189)) (HO1_3.out) (fun k_ hk => ⟨hk.1, hk.2⟩))) (Kd.V_reads' (Kd.V_mono (ok' := (fun k_ => ((P1_3_ k_ ∨ P1_4_ k_) ∨ w.heap.size ≤ k_) ∧ k_ ≠ gb189)) (HO1_4.out) (fun k_ hk => ⟨hk.1, hk.2⟩))).2.1 (Kd.V_F (Kd.V_mono (ok' := (fun k_ => ((P1_3_ k_ ∨ P1_4_ k_) ∨ w.heap.size ≤ k_) ∧ k_ ≠ gb189)) (HO1_4.out) (fun k_ hk => ⟨hk.1, hk.2⟩))))) (Reps.none _ _))); intro v193 w14 ho15 hb hg_ hnew_; clear hg_ hnew_; (first | rw [← Ny192.out] at ho15 | (simp only [Int.reduceToNat] at ho15; rw [← Ny192.out] at ho15)); have n0_ := Aside0.mk (Kd.V_elder' (by (with_reducible repeat (first | apply Kd.V_alloc | apply Kd.V_drewN | apply Kd.V_drew)); exact HO1_3.out) (Kd.N_base ho15) hb); have n1_ := Aside0.mk (Kd.V_elder' (by (with_reducible repeat (first | apply Kd.V_alloc | apply Kd.V_drewN | apply Kd.V_drew)); exact HO1_4.out) (Kd.N_base ho15) hb); have n2_ := Aside0.mk (Kd.N_lower ho15 (below_size (by repeat (first | (with_reducible first | exact HB.out | apply below_alloc | apply pw_below_drewN | apply below_drew1 | refine below_set ?_ GE189.out) | exact HB.out)))); have n3_ := Aside0.mk (blk_below (g := gb189) (o := .cells #[.int .i64 a1_0, .int .i64 a1_1, .string a1_2, .slice A1_3 l1_3.length c1_3, .slice A1_4 l1_4.length c1_4, .int .i64 a1_5] 27 (0, 0)) (by (with_reducible repeat (first | refine blk_drewN ?_ _ | refine blk_drew ?_ | refine blk_alloc ?_ _)); exact BK189.out) hb); have n4_ := Aside0.mk (below_step (by repeat (first | (with_reducible first | exact HB.out | apply below_alloc | apply pw_below_drewN | apply below_drew1 | refine below_set ?_ GE189.out) | exact HB.out)) hb); clear HO1_3; clear HO1_4; clear BK189; clear HB; have HO1_3 := n0_; have HO1_4 := n1_; have HO194 := n2_; have BK189 := n3_; have HB := n4_; clear n0_ n1_ n2_ n3_ n4_; clear hb ho15; obtain ⟨Ao16, co16, eo16⟩ := Kd.N_slice HO194.out; subst eo16) | (go_at_call 8; refine calls_of_args (args' := #[.slice Ao16 y192.length co16]) (by first | rfl) ?_; (with_reducible refine (switchyardlaw19_small.calls k _ _ y192 true _ ?side1 ?side2 A10.out).mono ?_); (case side1 => repeat (first | exact (Kd.N_reads' HO194.out).2.2 | (with_reducible refine Kd.C_alloc ?_ _) | (with_reducible refine Kd.C_drewN ?_ _) | (with_reducible refine Kd.C_drew ?_))); (case side2 => exact (Kd.N_reads' HO194.out).2.1); rintro e w17 ⟨rfl, hb⟩; have n0_ := Aside0.mk (Kd.V_below (by (with_reducible repeat (first | apply Kd.V_alloc | apply Kd.V_drewN | apply Kd.V_drew)); exact HO1_3.out) hb); have n1_ := Aside0.mk (Kd.V_below (by (with_reducible repeat (first | apply Kd.V_alloc | apply Kd.V_drewN | apply Kd.V_drew)); exact HO1_4.out) hb); have n2_ := Aside0.mk (Kd.N_below (by (with_reducible repeat (first | apply Kd.N_alloc | apply Kd.N_drewN | apply Kd.N_drew)); exact HO194.out) hb); have n3_ := Aside0.mk (blk_below (g := gb189) (o := .cells #[.int .i64 a1_0, .int .i64 a1_1, .string a1_2, .slice A1_3 l1_3.length c1_3, .slice A1_4 l1_4.length c1_4, .int .i64 a1_5] 27 (0, 0)) (by (with_reducible repeat (first | refine blk_drewN ?_ _ | refine blk_drew ?_ | refine blk_alloc ?_ _)); exact BK189.out) hb); have n4_ := Aside0.mk (below_step (by repeat (first | (with_reducible first | exact HB.out | apply below_alloc | apply pw_below_drewN | apply below_drew1 | refine below_set ?_ GE189.out) | exact HB.out)) hb); clear HO1_3; clear HO1_4; clear HO194; clear BK189; clear HB; have HO1_3 := n0_; have HO1_4 := n1_; have HO194 := n2_; have BK189 := n3_; have HB := n4_; clear n0_ n1_ n2_ n3_ n4_; (try clear hb); (try clear hb2); (try clear hk); (try clear hi)))
          go_meet
          case rel => exact ⟨_, (((l0.length : Int) == 0)), (by first | rfl | (simp; done) | (simp [*]; done)), H', ⟨by first | omega | exact Nat.le_refl _⟩, ⟨by (with_reducible repeat (first | apply Kd.V_alloc | apply Kd.V_drewN | apply Kd.V_drew)); exact Kd.V_mono HO1_3.out (fun _ hk => ⟨hk.1.1, hk.1.2⟩)⟩, ⟨by (with_reducible repeat (first | apply Kd.V_alloc | apply Kd.V_drewN | apply Kd.V_drew)); exact Kd.V_mono HO1_4.out (fun _ hk => ⟨hk.1.1, hk.1.2⟩)⟩, ⟨by (with_reducible repeat (first | refine blk_drewN ?_ _ | refine blk_drew ?_ | refine blk_alloc ?_ _)); exact BK189.out⟩, ⟨by repeat (first | (with_reducible first | exact HB.out | apply below_alloc | apply pw_below_drewN | apply below_drew1 | refine below_set ?_ GE189.out) | exact HB.out)⟩⟩
        · replace c11 := Bool.eq_false_iff.mpr c11
          subst c11
          have H1 : (switchyardlaw19_DeadOwn.j0 k l0 true a1_0 a1_1 a1_2 l1_3 l1_4 a1_5) = some r := by rw [if_neg (show ¬ (false = true) by decide)] at H; exact H
          clear H
          have H := H1
          clear H1
          have H' := Aside0.mk H
          clear H
          go_wp2_with (first | ((with_reducible refine gate_callee (f := 8) rfl ?_); refine goesL_ (some 19) rfl rfl Tryd.func8 (by kernel_rfl) rfl #[.slice A0 l0.length c0] rfl (by (try simp only [List.map_toArray, List.map_cons, List.map_nil]); first | done | rfl | (simp only [List.length_drop, List.length_take]; rfl)) ?_; (with_reducible refine (switchyardlaw19_small.calls k _ _ l0 true _ ?side1 ?side2 A8.out).mono ?_); (case side1 => repeat (first | exact (Kd.C_below HR0.out HB.out) | (with_reducible refine Kd.C_alloc ?_ _) | (with_reducible refine Kd.C_drewN ?_ _) | (with_reducible refine Kd.C_drew ?_))); (case side2 => exact HC0.out); rintro e w18 ⟨rfl, hb⟩; refine ⟨_, rfl, ?_⟩; have n0_ := Aside0.mk (Kd.V_below (by (with_reducible repeat (first | apply Kd.V_alloc | apply Kd.V_drewN | apply Kd.V_drew)); exact HO1_3.out) hb); have n1_ := Aside0.mk (Kd.V_below (by (with_reducible repeat (first | apply Kd.V_alloc | apply Kd.V_drewN | apply Kd.V_drew)); exact HO1_4.out) hb); have n2_ := Aside0.mk (blk_below (g := gb189) (o := .cells #[.int .i64 a1_0, .int .i64 a1_1, .string a1_2, .slice A1_3 l1_3.length c1_3, .slice A1_4 l1_4.length c1_4, .int .i64 a1_5] 27 (0, 0)) (by (with_reducible repeat (first | refine blk_drewN ?_ _ | refine blk_drew ?_ | refine blk_alloc ?_ _)); exact BK189.out) hb); have n3_ := Aside0.mk (below_step (by repeat (first | (with_reducible first | exact HB.out | apply below_alloc | apply pw_below_drewN | apply below_drew1 | refine below_set ?_ GE189.out) | exact HB.out)) hb); clear HO1_3; clear HO1_4; clear BK189; clear HB; have HO1_3 := n0_; have HO1_4 := n1_; have BK189 := n2_; have HB := n3_; clear n0_ n1_ n2_ n3_; (try clear hb); (try clear hb2); (try clear hk); (try clear hi); have hcz19_0 : w18.cell? ⟨gb189, 0, none⟩ = some (.int .i64 a1_0) := (blk_cell BK189.out 0).trans rfl; have hcz19_1 : w18.cell? ⟨gb189, 1, none⟩ = some (.int .i64 a1_1) := (blk_cell BK189.out 1).trans rfl; have hcz19_2 : w18.cell? ⟨gb189, 2, none⟩ = some (.string a1_2) := (blk_cell BK189.out 2).trans rfl; have hcz19_3 : w18.cell? ⟨gb189, 3, none⟩ = some (.slice A1_3 l1_3.length c1_3) := (blk_cell BK189.out 3).trans rfl; have hcz19_4 : w18.cell? ⟨gb189, 4, none⟩ = some (.slice A1_4 l1_4.length c1_4) := (blk_cell BK189.out 4).trans rfl; have hcz19_5 : w18.cell? ⟨gb189, 5, none⟩ = some (.int .i64 a1_5) := (blk_cell BK189.out 5).trans rfl; have hfz19_0 := blk_frozen BK189.out 0; have hfz19_1 := blk_frozen BK189.out 1; have hfz19_2 := blk_frozen BK189.out 2; have hfz19_3 := blk_frozen BK189.out 3; have hfz19_4 := blk_frozen BK189.out 4; have hfz19_5 := blk_frozen BK189.out 5) | ((with_reducible refine gate_dst (N := 23) rfl ?_); (try (refine gate_guard (by rfl) ?_; dsimp only)); refine Kd.N_lit k27 _ 27 ?hg (N' := 23) ?hd (xs := ([(⟨a1_0, (⟨a1_1, a1_2, l1_3, l1_4⟩ : S25), a1_5⟩ : S27)] : List (S27))) (inner := [.int .i64 a1_0, .int .i64 a1_1, .string a1_2, .slice A1_3 l1_3.length c1_3, .slice A1_4 l1_4.length c1_4, .int .i64 a1_5]) (ok := (fun k_ => ((P1_3_ k_ ∨ P1_4_ k_) ∨ w.heap.size ≤ k_) ∧ k_ ≠ gb189)) (okp := (fun k_ => ((P1_3_ k_ ∨ P1_4_ k_) ∨ w.heap.size ≤ k_) ∧ k_ ≠ gb189)) ?hr ?hp (fun _ hk => hk) ((show ∀ k_, w18.heap.size ≤ k_ → (fun k_ => ((P1_3_ k_ ∨ P1_4_ k_) ∨ w.heap.size ≤ k_) ∧ k_ ≠ gb189) k_ from fun k_ hk => ⟨(.inr (Nat.le_trans (below_size (by repeat (first | (with_reducible first | exact HB.out | apply below_alloc | apply pw_below_drewN | apply below_drew1 | refine below_set ?_ GE189.out) | exact HB.out))) hk)), Kd.freshB (g := gb189) (o := .cells #[.int .i64 a1_0, .int .i64 a1_1, .string a1_2, .slice A1_3 l1_3.length c1_3, .slice A1_4 l1_4.length c1_4, .int .i64 a1_5] 27 (0, 0)) (by (with_reducible repeat (first | refine blk_drewN ?_ _ | refine blk_drew ?_ | refine blk_alloc ?_ _)); exact BK189.out) k_ hk⟩) _ (Nat.le_refl _)) (Below.refl _ _) (Nat.le_refl _) (by simp) ?_; (case hd => rfl); (case hg => rfl); (case hr => first | (go_simp; done) | (go_simp; rfl)); (case hp => exact (Reps.c6 (show Kd.FK k27 _ _ (⟨a1_0, (⟨a1_1, a1_2, l1_3, l1_4⟩ : S25), a1_5⟩ : S27) [.int .i64 a1_0, .int .i64 a1_1, .string a1_2, .slice A1_3 l1_3.length c1_3, .slice A1_4 l1_4.length c1_4, .int .i64 a1_5] from (k27_mkF _ _ (⟨a1_0, (⟨a1_1, a1_2, l1_3, l1_4⟩ : S25), a1_5⟩ : S27) (Kd.V_reads' (Kd.V_mono (ok' := (fun k_ => ((P1_3_ k_ ∨ P1_4_ k_) ∨ w.heap.size ≤ k_) ∧ k_ ≠ gb189)) (HO1_3.out) (fun k_ hk => ⟨hk.1, hk.2⟩))).2.1 (Kd.V_F (Kd.V_mono (ok' := (fun k_ => ((P1_3_ k_ ∨ P1_4_ k_) ∨ w.heap.size ≤ k_) ∧ k_ ≠ gb189)) (HO1_3.out) (fun k_ hk => ⟨hk.1, hk.2⟩))) (Kd.V_reads' (Kd.V_mono (ok' := (fun k_ => ((P1_3_ k_ ∨ P1_4_ k_) ∨ w.heap.size ≤ k_) ∧ k_ ≠ gb189)) (HO1_4.out) (fun k_ hk => ⟨hk.1, hk.2⟩))).2.1 (Kd.V_F (Kd.V_mono (ok' := (fun k_ => ((P1_3_ k_ ∨ P1_4_ k_) ∨ w.heap.size ≤ k_) ∧ k_ ≠ gb189)) (HO1_4.out) (fun k_ hk => ⟨hk.1, hk.2⟩))))) (Reps.none _ _))); intro v193 w20 ho21 hb hg_ hnew_; clear hg_ hnew_; (first | rw [← Ny192.out] at ho21 | (simp only [Int.reduceToNat] at ho21; rw [← Ny192.out] at ho21)); have n0_ := Aside0.mk (Kd.V_elder' (by (with_reducible repeat (first | apply Kd.V_alloc | apply Kd.V_drewN | apply Kd.V_drew)); exact HO1_3.out) (Kd.N_base ho21) hb); have n1_ := Aside0.mk (Kd.V_elder' (by (with_reducible repeat (first | apply Kd.V_alloc | apply Kd.V_drewN | apply Kd.V_drew)); exact HO1_4.out) (Kd.N_base ho21) hb); have n2_ := Aside0.mk (Kd.N_lower ho21 (below_size (by repeat (first | (with_reducible first | exact HB.out | apply below_alloc | apply pw_below_drewN | apply below_drew1 | refine below_set ?_ GE189.out) | exact HB.out)))); have n3_ := Aside0.mk (blk_below (g := gb189) (o := .cells #[.int .i64 a1_0, .int .i64 a1_1, .string a1_2, .slice A1_3 l1_3.length c1_3, .slice A1_4 l1_4.length c1_4, .int .i64 a1_5] 27 (0, 0)) (by (with_reducible repeat (first | refine blk_drewN ?_ _ | refine blk_drew ?_ | refine blk_alloc ?_ _)); exact BK189.out) hb); have n4_ := Aside0.mk (below_step (by repeat (first | (with_reducible first | exact HB.out | apply below_alloc | apply pw_below_drewN | apply below_drew1 | refine below_set ?_ GE189.out) | exact HB.out)) hb); clear HO1_3; clear HO1_4; clear BK189; clear HB; have HO1_3 := n0_; have HO1_4 := n1_; have HO194 := n2_; have BK189 := n3_; have HB := n4_; clear n0_ n1_ n2_ n3_ n4_; clear hb ho21; obtain ⟨Ao22, co22, eo22⟩ := Kd.N_slice HO194.out; subst eo22) | (go_at_call 8; refine calls_of_args (args' := #[.slice Ao22 y192.length co22]) (by first | rfl) ?_; (with_reducible refine (switchyardlaw19_small.calls k _ _ y192 false _ ?side1 ?side2 A10.out).mono ?_); (case side1 => repeat (first | exact (Kd.N_reads' HO194.out).2.2 | (with_reducible refine Kd.C_alloc ?_ _) | (with_reducible refine Kd.C_drewN ?_ _) | (with_reducible refine Kd.C_drew ?_))); (case side2 => exact (Kd.N_reads' HO194.out).2.1); rintro e w23 ⟨rfl, hb⟩; have n0_ := Aside0.mk (Kd.V_below (by (with_reducible repeat (first | apply Kd.V_alloc | apply Kd.V_drewN | apply Kd.V_drew)); exact HO1_3.out) hb); have n1_ := Aside0.mk (Kd.V_below (by (with_reducible repeat (first | apply Kd.V_alloc | apply Kd.V_drewN | apply Kd.V_drew)); exact HO1_4.out) hb); have n2_ := Aside0.mk (Kd.N_below (by (with_reducible repeat (first | apply Kd.N_alloc | apply Kd.N_drewN | apply Kd.N_drew)); exact HO194.out) hb); have n3_ := Aside0.mk (blk_below (g := gb189) (o := .cells #[.int .i64 a1_0, .int .i64 a1_1, .string a1_2, .slice A1_3 l1_3.length c1_3, .slice A1_4 l1_4.length c1_4, .int .i64 a1_5] 27 (0, 0)) (by (with_reducible repeat (first | refine blk_drewN ?_ _ | refine blk_drew ?_ | refine blk_alloc ?_ _)); exact BK189.out) hb); have n4_ := Aside0.mk (below_step (by repeat (first | (with_reducible first | exact HB.out | apply below_alloc | apply pw_below_drewN | apply below_drew1 | refine below_set ?_ GE189.out) | exact HB.out)) hb); clear HO1_3; clear HO1_4; clear HO194; clear BK189; clear HB; have HO1_3 := n0_; have HO1_4 := n1_; have HO194 := n2_; have BK189 := n3_; have HB := n4_; clear n0_ n1_ n2_ n3_ n4_; (try clear hb); (try clear hb2); (try clear hk); (try clear hi)))
          go_meet
          case rel => exact ⟨_, (true), (by first | rfl | (simp; done) | (simp [*]; done)), H', ⟨by first | omega | exact Nat.le_refl _⟩, ⟨by (with_reducible repeat (first | apply Kd.V_alloc | apply Kd.V_drewN | apply Kd.V_drew)); exact Kd.V_mono HO1_3.out (fun _ hk => ⟨hk.1.1, hk.1.2⟩)⟩, ⟨by (with_reducible repeat (first | apply Kd.V_alloc | apply Kd.V_drewN | apply Kd.V_drew)); exact Kd.V_mono HO1_4.out (fun _ hk => ⟨hk.1.1, hk.1.2⟩)⟩, ⟨by (with_reducible repeat (first | refine blk_drewN ?_ _ | refine blk_drew ?_ | refine blk_alloc ?_ _)); exact BK189.out⟩, ⟨by repeat (first | (with_reducible first | exact HB.out | apply below_alloc | apply pw_below_drewN | apply below_drew1 | refine below_set ?_ GE189.out) | exact HB.out)⟩⟩
      · replace c9 := Bool.eq_false_iff.mpr c9
        subst c9
        have H1 : (switchyardlaw19_DeadOwn.j0 k l0 true a1_0 a1_1 a1_2 l1_3 l1_4 a1_5) = some r := by rw [if_neg (show ¬ (false = true) by decide)] at H; exact H
        clear H
        have H := H1
        clear H1
        have H' := Aside0.mk H
        clear H
        go_wp2_with (first | ((with_reducible refine gate_callee (f := 8) rfl ?_); refine goesL_ (some 19) rfl rfl Tryd.func8 (by kernel_rfl) rfl #[.slice A0 l0.length c0] rfl (by (try simp only [List.map_toArray, List.map_cons, List.map_nil]); first | done | rfl | (simp only [List.length_drop, List.length_take]; rfl)) ?_; (with_reducible refine (switchyardlaw19_small.calls k _ _ l0 false _ ?side1 ?side2 A8.out).mono ?_); (case side1 => repeat (first | exact (Kd.C_below HR0.out HB.out) | (with_reducible refine Kd.C_alloc ?_ _) | (with_reducible refine Kd.C_drewN ?_ _) | (with_reducible refine Kd.C_drew ?_))); (case side2 => exact HC0.out); rintro e w24 ⟨rfl, hb⟩; refine ⟨_, rfl, ?_⟩; have n0_ := Aside0.mk (Kd.V_below (by (with_reducible repeat (first | apply Kd.V_alloc | apply Kd.V_drewN | apply Kd.V_drew)); exact HO1_3.out) hb); have n1_ := Aside0.mk (Kd.V_below (by (with_reducible repeat (first | apply Kd.V_alloc | apply Kd.V_drewN | apply Kd.V_drew)); exact HO1_4.out) hb); have n2_ := Aside0.mk (blk_below (g := gb189) (o := .cells #[.int .i64 a1_0, .int .i64 a1_1, .string a1_2, .slice A1_3 l1_3.length c1_3, .slice A1_4 l1_4.length c1_4, .int .i64 a1_5] 27 (0, 0)) (by (with_reducible repeat (first | refine blk_drewN ?_ _ | refine blk_drew ?_ | refine blk_alloc ?_ _)); exact BK189.out) hb); have n3_ := Aside0.mk (below_step (by repeat (first | (with_reducible first | exact HB.out | apply below_alloc | apply pw_below_drewN | apply below_drew1 | refine below_set ?_ GE189.out) | exact HB.out)) hb); clear HO1_3; clear HO1_4; clear BK189; clear HB; have HO1_3 := n0_; have HO1_4 := n1_; have BK189 := n2_; have HB := n3_; clear n0_ n1_ n2_ n3_; (try clear hb); (try clear hb2); (try clear hk); (try clear hi)))
        go_meet
        case rel => exact ⟨_, (true), (by first | rfl | (simp; done) | (simp [*]; done)), H', ⟨by first | omega | exact Nat.le_refl _⟩, ⟨by (with_reducible repeat (first | apply Kd.V_alloc | apply Kd.V_drewN | apply Kd.V_drew)); exact HO1_3.out⟩, ⟨by (with_reducible repeat (first | apply Kd.V_alloc | apply Kd.V_drewN | apply Kd.V_drew)); exact HO1_4.out⟩, ⟨by (with_reducible repeat (first | refine blk_drewN ?_ _ | refine blk_drew ?_ | refine blk_alloc ?_ _)); exact BK189.out⟩, ⟨by repeat (first | (with_reducible first | exact HB.out | apply below_alloc | apply pw_below_drewN | apply below_drew1 | refine below_set ?_ GE189.out) | exact HB.out)⟩⟩
    case rest =>
      clear HC5
      try clear c1
      try clear p2
      try clear c3
      try clear c4
      try clear c6
      try clear c7
      try clear c8
      try clear c9
      try clear c11
      try clear hcz13_0
      try clear hcz13_1
      try clear hcz13_2
      try clear hcz13_3
      try clear hcz13_4
      try clear hcz13_5
      try clear hcz19_0
      try clear hcz19_1
      try clear hcz19_2
      try clear hcz19_3
      try clear hcz19_4
      try clear hcz19_5
      try clear hfz13_0
      try clear hfz13_1
      try clear hfz13_2
      try clear hfz13_3
      try clear hfz13_4
      try clear hfz13_5
      try clear hfz19_0
      try clear hfz19_1
      try clear hfz19_2
      try clear hfz19_3
      try clear hfz19_4
      try clear hfz19_5
      obtain ⟨kq, x31_4, rfl, HA, HJ4, HO_190003, HO_190004, BK189, HB⟩ := hcut
      cases kq with
      | zero => exact absurd HA.out (by simp [switchyardlaw19_DeadOwn.j0])
      | succ kj4 =>
        have H := HA.out
        clear HA
        simp only [switchyardlaw19_DeadOwn.j0] at H
        by_cases c25 : x31_4 = true
        · subst c25
          have H1 : ((switchyardlaw19_awake.f kj4).bind fun t196 => (some t196)) = some r := by rw [if_pos rfl] at H; exact H
          clear H
          have H := H1
          clear H1
          replace H := Option.bind_eq_some_iff.mp H
          obtain ⟨t196, A260, H⟩ := H
          replace H : (some t196) = some r := H
          have A26 := Aside0.mk A260
          clear A260
          obtain rfl := Option.some.inj H
          go_wp2_with (first | ((with_reducible refine gate_callee (f := 7) rfl ?_); refine goesL_ (some 32) rfl rfl Tryd.func7 (by kernel_rfl) rfl #[] rfl (by (try simp only [List.map_toArray, List.map_cons, List.map_nil]); first | done | rfl | (simp only [List.length_drop, List.length_take]; rfl)) ?_; (with_reducible refine (switchyardlaw19_awake.calls kj4  t196 _ A26.out (Tabs.below HT.out (by repeat (first | (with_reducible first | exact HB.out | apply below_alloc | apply pw_below_drewN | apply below_drew1 | refine below_set ?_ GE189.out) | exact HB.out)))).mono ?_); rintro e w27 ⟨rfl, hb⟩; refine ⟨_, rfl, ?_⟩; have n0_ := Aside0.mk (Kd.V_below (by (with_reducible repeat (first | apply Kd.V_alloc | apply Kd.V_drewN | apply Kd.V_drew)); exact HO_190003.out) hb); have n1_ := Aside0.mk (Kd.V_below (by (with_reducible repeat (first | apply Kd.V_alloc | apply Kd.V_drewN | apply Kd.V_drew)); exact HO_190004.out) hb); have n2_ := Aside0.mk (blk_below (g := gb189) (o := .cells #[.int .i64 a1_0, .int .i64 a1_1, .string a1_2, .slice A1_3 l1_3.length c1_3, .slice A1_4 l1_4.length c1_4, .int .i64 a1_5] 27 (0, 0)) (by (with_reducible repeat (first | refine blk_drewN ?_ _ | refine blk_drew ?_ | refine blk_alloc ?_ _)); exact BK189.out) hb); have n3_ := Aside0.mk (below_step (by repeat (first | (with_reducible first | exact HB.out | apply below_alloc | apply pw_below_drewN | apply below_drew1 | refine below_set ?_ GE189.out) | exact HB.out)) hb); clear HO_190003; clear HO_190004; clear BK189; clear HB; have HO_190003 := n0_; have HO_190004 := n1_; have BK189 := n2_; have HB := n3_; clear n0_ n1_ n2_ n3_; (try clear hb); (try clear hb2); (try clear hk); (try clear hi)))
          go_ret
          exact ⟨by first | rfl | (simp [errW_none, errW_some] <;> rfl) | (simp [*, errW_none, errW_some] <;> rfl), by repeat (first | (with_reducible first | exact HB.out | apply below_alloc | apply pw_below_drewN | apply below_drew1 | refine below_set ?_ GE189.out) | exact HB.out)⟩
        · replace c25 := Bool.eq_false_iff.mpr c25
          subst c25
          have H1 : ((dead_Put.f kj4 l0 a1_0 a1_1 a1_2 l1_3 l1_4 1 (wrap64 ((l0.length : Int) + 1))).bind fun bt197 => ((dead_Put.f kj4 l0 a1_0 a1_1 a1_2 l1_3 l1_4 1 (wrap64 ((l0.length : Int) + 1))).bind fun bt201 => (if 0 < (l0.length : Int) then ((dead_Find.f kj4 l0 ((rd_T27 l0 0).f0)).bind fun bt206 => ((dead_Put.f kj4 l0 a1_0 a1_1 a1_2 l1_3 l1_4 1 (wrap64 ((l0.length : Int) + 1))).bind fun bt218 => ((switchyardlaw19_awake.f kj4).bind fun t222 => (if t222 = true then (if bt197.2 = bt201.2 then (if bt201.2 = bt218.2 then ((switchyardlaw19_Same.f kj4 bt197.1 bt218.1).bind fun t223 => (some t223)) else (none)) else (none)) else (none))))) else (none)))) = some r := by rw [if_neg (show ¬ (false = true) by decide)] at H; exact H
          clear H
          have H := H1
          clear H1
          replace H := Option.bind_eq_some_iff.mp H
          obtain ⟨⟨t197, t200⟩, A280, H⟩ := H
          replace H : ((dead_Put.f kj4 l0 a1_0 a1_1 a1_2 l1_3 l1_4 1 (wrap64 ((l0.length : Int) + 1))).bind fun bt201 => (if 0 < (l0.length : Int) then ((dead_Find.f kj4 l0 ((rd_T27 l0 0).f0)).bind fun bt206 => ((dead_Put.f kj4 l0 a1_0 a1_1 a1_2 l1_3 l1_4 1 (wrap64 ((l0.length : Int) + 1))).bind fun bt218 => ((switchyardlaw19_awake.f kj4).bind fun t222 => (if t222 = true then (if t200 = bt201.2 then (if bt201.2 = bt218.2 then ((switchyardlaw19_Same.f kj4 t197 bt218.1).bind fun t223 => (some t223)) else (none)) else (none)) else (none))))) else (none))) = some r := H
          have A28 := Aside0.mk A280
          clear A280
          replace H := Option.bind_eq_some_iff.mp H
          obtain ⟨⟨t201, t204⟩, A290, H⟩ := H
          replace H : (if 0 < (l0.length : Int) then ((dead_Find.f kj4 l0 ((rd_T27 l0 0).f0)).bind fun bt206 => ((dead_Put.f kj4 l0 a1_0 a1_1 a1_2 l1_3 l1_4 1 (wrap64 ((l0.length : Int) + 1))).bind fun bt218 => ((switchyardlaw19_awake.f kj4).bind fun t222 => (if t222 = true then (if t200 = t204 then (if t204 = bt218.2 then ((switchyardlaw19_Same.f kj4 t197 bt218.1).bind fun t223 => (some t223)) else (none)) else (none)) else (none))))) else (none)) = some r := H
          have A29 := Aside0.mk A290
          clear A290
          by_cases c30 : 0 < (l0.length : Int)
          · rw [if_pos c30] at H
            have c30b0 : decide (0 < (l0.length : Int)) = true := decide_eq_true c30
            have c30b1 : decide (0 < l0.length) = true := decide_eq_true (by omega)
            clear c30
            replace H := Option.bind_eq_some_iff.mp H
            obtain ⟨⟨t206, t207, t208, t209, t212, t215, t216⟩, A310, H⟩ := H
            replace H : ((dead_Put.f kj4 l0 a1_0 a1_1 a1_2 l1_3 l1_4 1 (wrap64 ((l0.length : Int) + 1))).bind fun bt218 => ((switchyardlaw19_awake.f kj4).bind fun t222 => (if t222 = true then (if t200 = t204 then (if t204 = bt218.2 then ((switchyardlaw19_Same.f kj4 t197 bt218.1).bind fun t223 => (some t223)) else (none)) else (none)) else (none)))) = some r := H
            have A31 := Aside0.mk A310
            clear A310
            replace H := Option.bind_eq_some_iff.mp H
            obtain ⟨⟨t218, t221⟩, A320, H⟩ := H
            replace H : ((switchyardlaw19_awake.f kj4).bind fun t222 => (if t222 = true then (if t200 = t204 then (if t204 = t221 then ((switchyardlaw19_Same.f kj4 t197 t218).bind fun t223 => (some t223)) else (none)) else (none)) else (none))) = some r := H
            have A32 := Aside0.mk A320
            clear A320
            replace H := Option.bind_eq_some_iff.mp H
            obtain ⟨t222, A330, H⟩ := H
            replace H : (if t222 = true then (if t200 = t204 then (if t204 = t221 then ((switchyardlaw19_Same.f kj4 t197 t218).bind fun t223 => (some t223)) else (none)) else (none)) else (none)) = some r := H
            have A33 := Aside0.mk A330
            clear A330
            by_cases c34 : t222 = true
            · subst c34
              have H1 : (if t200 = t204 then (if t204 = t221 then ((switchyardlaw19_Same.f kj4 t197 t218).bind fun t223 => (some t223)) else (none)) else (none)) = some r := by rw [if_pos rfl] at H; exact H
              clear H
              have H := H1
              clear H1
              by_cases c35 : t200 = t204
              · rw [if_pos c35] at H
                have c35b0 : (t200 == t204) = true := beq_iff_eq.mpr c35
                have c35b1 : (t200 != t204) = false := bne_eq_false_iff_eq.mpr c35
                clear c35
                by_cases c36 : t204 = t221
                · rw [if_pos c36] at H
                  have c36b0 : (t204 == t221) = true := beq_iff_eq.mpr c36
                  have c36b1 : (t204 != t221) = false := bne_eq_false_iff_eq.mpr c36
                  clear c36
                  replace H := Option.bind_eq_some_iff.mp H
                  obtain ⟨t223, A370, H⟩ := H
                  replace H : (some t223) = some r := H
                  have A37 := Aside0.mk A370
                  clear A370
                  obtain rfl := Option.some.inj H
                  have hcz38_0 : wc.cell? ⟨gb189, 0, none⟩ = some (.int .i64 a1_0) := (blk_cell BK189.out 0).trans rfl
                  have hcz38_1 : wc.cell? ⟨gb189, 1, none⟩ = some (.int .i64 a1_1) := (blk_cell BK189.out 1).trans rfl
                  have hcz38_2 : wc.cell? ⟨gb189, 2, none⟩ = some (.string a1_2) := (blk_cell BK189.out 2).trans rfl
                  have hcz38_3 : wc.cell? ⟨gb189, 3, none⟩ = some (.slice A1_3 l1_3.length c1_3) := (blk_cell BK189.out 3).trans rfl
                  have hcz38_4 : wc.cell? ⟨gb189, 4, none⟩ = some (.slice A1_4 l1_4.length c1_4) := (blk_cell BK189.out 4).trans rfl
                  have hcz38_5 : wc.cell? ⟨gb189, 5, none⟩ = some (.int .i64 a1_5) := (blk_cell BK189.out 5).trans rfl
                  have hfz38_0 := blk_frozen BK189.out 0
                  have hfz38_1 := blk_frozen BK189.out 1
                  have hfz38_2 := blk_frozen BK189.out 2
                  have hfz38_3 := blk_frozen BK189.out 3
                  have hfz38_4 := blk_frozen BK189.out 4
                  have hfz38_5 := blk_frozen BK189.out 5
                  have hX3 := Aside0.mk (Kd.V_reads' HO_190003.out).2.2
                  have lX3 := Aside0.mk (Kd.V_reads' HO_190003.out).2.1
                  have hX4 := Aside0.mk (Kd.V_reads' HO_190004.out).2.2
                  have lX4 := Aside0.mk (Kd.V_reads' HO_190004.out).2.1
                  have HRc := Aside0.mk (Kd.C_below HR0.out HB.out)
                  have HTc := Aside0.mk (Tabs.below HT.out HB.out)
                  have HD := Aside0.mk (Below.refl wc.heap.size wc)
                  have HBw := HB
                  have BK := BK189
                  have GE := GE189
                  clear HO_190003 HO_190004 HR0 HT HB BK189 HO1_3 HO1_4
                  have p205 : (0 : Int) ≤ 0 := Int.le_refl _
                  have q205 : (0 : Int) < (l0.length : Int) := of_decide_eq_true c30b0
                  obtain ⟨ad205, A205_3, c205_3, A205_4, c205_4, e205, hx205_0, hx205_1, hx205_2, hx205_3, hx205_4, hx205_5, hl205_3, hi205_3, hl205_4, hi205_4⟩ := at_T27 HRc.out 0 p205 q205
                  cases e205
                  have qi205 : (0 < l0.length) = True := eq_true (by omega)
                  rw [show ((0 : Int)).toNat = 0 from rfl, show 0 * 6 = 0 from rfl, Addr.add_zero'] at hx205_0
                  clear hx205_1 hx205_2 hx205_3 hx205_4 hx205_5 hl205_3 hi205_3 hl205_4 hi205_4
                  replace q205 := eq_true q205
                  clear p205
                  have HLEN := Aside0.mk (HLn.out _ _ _ A29.out)
                  go_wp2_with (first | ((with_reducible refine gate_callee (f := 9) rfl ?_); refine goesL_ (some 42) rfl rfl Tryd.func9 (by kernel_rfl) rfl #[.slice (some ad205) l0.length c0, .int .i64 a1_0, .agg #[.int .i64 a1_1, .string a1_2, .slice A1_3 l1_3.length c1_3, .slice A1_4 l1_4.length c1_4], .int .i64 1, .int .i64 (wrap64 ((l0.length : Int) + 1))] rfl (by (try simp only [List.map_toArray, List.map_cons, List.map_nil]); first | done | rfl) ?_; refine (dead_Put.calls kj4 _ _ l0 a1_0 a1_1 a1_2 _ _ l1_3 _ _ l1_4 1 (wrap64 ((l0.length : Int) + 1)) t197 t200 _ (Kd.C_below HRc.out HD.out) HC0.out (Kd.C_below hX3.out HD.out) lX3.out (Kd.C_below hX4.out HD.out) lX4.out A28.out (Tabs.below HTc.out HD.out)).mono ?_; rintro e w5 ⟨vw, rfl, ho0, hb⟩; refine ⟨_, rfl, ?_⟩; have HW5 := Aside0.mk ho0; have HD5 := Aside0.mk (below_step HD.out hb); have BK5 := Aside0.mk (blk_below BK.out hb); clear HD BK hb ho0; have HD := HD5; have BK := BK5; have hq5_0 : w5.cell? ⟨gb189, 0, none⟩ = some (.int .i64 a1_0) := (blk_cell BK.out 0).trans rfl; have hq5_1 : w5.cell? ⟨gb189, 1, none⟩ = some (.int .i64 a1_1) := (blk_cell BK.out 1).trans rfl; have hq5_2 : w5.cell? ⟨gb189, 2, none⟩ = some (.string a1_2) := (blk_cell BK.out 2).trans rfl; have hq5_3 : w5.cell? ⟨gb189, 3, none⟩ = some (.slice A1_3 l1_3.length c1_3) := (blk_cell BK.out 3).trans rfl; have hq5_4 : w5.cell? ⟨gb189, 4, none⟩ = some (.slice A1_4 l1_4.length c1_4) := (blk_cell BK.out 4).trans rfl; have hq5_5 : w5.cell? ⟨gb189, 5, none⟩ = some (.int .i64 a1_5) := (blk_cell BK.out 5).trans rfl) | ((with_reducible refine gate_callee (f := 9) rfl ?_); refine goesL_ (some 54) rfl rfl Tryd.func9 (by kernel_rfl) rfl #[.slice (some ad205) l0.length c0, .int .i64 a1_0, .agg #[.int .i64 a1_1, .string a1_2, .slice A1_3 l1_3.length c1_3, .slice A1_4 l1_4.length c1_4], .int .i64 1, .int .i64 (wrap64 ((l0.length : Int) + 1))] rfl (by (try simp only [List.map_toArray, List.map_cons, List.map_nil]); first | done | rfl) ?_; refine (dead_Put.calls kj4 _ _ l0 a1_0 a1_1 a1_2 _ _ l1_3 _ _ l1_4 1 (wrap64 ((l0.length : Int) + 1)) t201 t204 _ (Kd.C_below HRc.out HD.out) HC0.out (Kd.C_below hX3.out HD.out) lX3.out (Kd.C_below hX4.out HD.out) lX4.out A29.out (Tabs.below HTc.out HD.out)).mono ?_; rintro e w6 ⟨vn, rfl, ho0, hb⟩; refine ⟨_, rfl, ?_⟩; have HN := Aside0.mk ho0; have H56 := Aside0.mk hb.size; have HL6 := Aside0.mk (Kd.R_lt ho0); have HE := Aside0.mk hb; have m0_ := Aside0.mk (below_step HD.out hb); have m1_ := Aside0.mk (blk_below BK.out hb); clear HD BK; have HD := m0_; have BK := m1_; clear m0_ m1_; clear hb ho0; have hx0 := (HD.out.cell (World.block_lt_of_cell? wc _ hx205_0)).trans hx205_0) | ((with_reducible refine gate_callee (f := 10) rfl ?_); refine goesL_ (some 63) rfl rfl Tryd.func10 (by kernel_rfl) rfl #[.slice (some ad205) l0.length c0, .int .i64 ((rd_T27 l0 0).f0)] rfl (by (try simp only [List.map_toArray, List.map_cons, List.map_nil]); first | done | rfl) ?_; refine (dead_Find.calls kj4 _ _ l0 ((rd_T27 l0 0).f0) t206 t207 t208 t209 t212 t215 t216 _ (Kd.C_below HRc.out HD.out) HC0.out A31.out).mono ?_; rintro e w7 ⟨vk, vf, rfl, ho0, ho1, hb⟩; refine ⟨_, rfl, ?_⟩; have HK := Aside0.mk (Kd.S_R ho0); have HF := Aside0.mk (Kd.S_R ho1); have m4_ := Aside0.mk (Kd.R_below HN.out hb); have m5_ := Aside0.mk (below_step HE.out hb); clear HN HE HD BK; have HN := m4_; have HE := m5_; clear m4_ m5_; clear hb ho0 ho1; obtain ⟨Ak, ck, ek⟩ := Kd.R_slice HK.out; subst ek; obtain ⟨Af, cf, ef⟩ := Kd.R_slice HF.out; subst ef) | (at_builtin; refine Kd.R_append k27 (w0 := w5) w5.heap.size rfl (.tmp 66) (.tmp 68) 22 27 (.agg #[(.int .i64 0), (.int .i64 0), (.string ⟨#[]⟩), (.slice none 0 0), (.slice none 0 0), (.int .i64 0)]) 88 rfl Tryd.underlying22 info27 rfl (by decide) (by omega) vn t201 (⟨t206, (⟨t207, t208, t209, t212⟩ : S25), t215⟩ : S27) [.int .i64 t206, .int .i64 t207, .string t208, .slice Ak t209.length ck, .slice Af t212.length cf, .int .i64 t215] (fun _ => True) (fun k => True ∧ some k ≠ vn.ownBlock) rfl (by show Value.slice (some ⟨w7.heap.size + 1, 0, none⟩) 1 1 = _; rw [World.size_alloc]) (k27_mkM _ _ _ (⟨t206, (⟨t207, t208, t209, t212⟩ : S25), t215⟩ : S27) (Kd.R_lower (Kd.R_mono (Kd.R_bound (Kd.R_alloc HK.out _)) (fun k hk => ⟨trivial, fun e => absurd (HL6.out k e.symm) (Nat.not_lt.2 hk.2.1)⟩)) H56.out) (Kd.R_lower (Kd.R_mono (Kd.R_bound (Kd.R_alloc HF.out _)) (fun k hk => ⟨trivial, fun e => absurd (HL6.out k e.symm) (Nat.not_lt.2 hk.2.1)⟩)) H56.out)) (fun _ hk => hk) (fun _ _ => trivial) (Kd.R_alloc HN.out _) (below_alloc HE.out _) ?aS ?aL ?_; (case aS => have := HE.out.size; simp; omega); (case aL => have := HLEN.out; omega); intro v9 w9 ho hb hg hat; have HL9 := Aside0.mk (letters_of ho); have m1_ := Aside0.mk hb; clear HE HN HK HF; have HE := m1_; clear m1_ ho hb hg hat; obtain ⟨A9, n9, c9, e9, hn9, hl9⟩ := HL9.out; subst e9; clear hl9))
                  go_loopg [71] n9 (fun kq v71 w' => ∃ i : Nat, v71 = .int .i64 (i : Int) ∧ Aside0 (i + kq = n9) ∧ Aside0 (IntRel w9 w') ∧ Aside0 (Below w5.heap.size w5 w'))
                  case atStart => exact ⟨0, rfl, ⟨by omega⟩, ⟨IntRel.refl _⟩, HE⟩
                  case round =>
                    clear HE
                    obtain ⟨i, rfl, HI, HIR, HE⟩ := hrel
                    by_cases hi : i < n9
                    · have b0 : decide ((i : Int) < (n9 : Int)) = true := decide_eq_true (by omega)
                      have p0 : (0 : Int) ≤ (i : Int) := by omega
                      have q0 : (i : Int) < (n9 : Int) := by omega
                      obtain ⟨A9', n9', c9', e9', hn9', hh⟩ := HL9.out.keep HIR.out
                      injection e9' with e1 e2 e3
                      subst e1 e2 e3
                      obtain ⟨b, ea, hc⟩ := hh (by omega)
                      subst ea
                      obtain ⟨x0, x1, s, A3, m3, c3, v4, x5, z0, z1, z2, z3, z4, N4, z5⟩ := hc i hi
                      obtain ⟨A4, n4, c4, e4, hn4, h4⟩ := N4
                      subst e4
                      have HN4 := Aside0.mk (show Nums37 w5.heap.size wr (.slice A4 n4 c4) from ⟨A4, n4, c4, rfl, hn4, h4⟩)
                      clear hh hc hn9' hn4 h4
                      replace p0 := eq_true p0
                      replace q0 := eq_true q0
                      obtain ⟨wo, rfl⟩ : ∃ wo : World, wo = wr := ⟨_, rfl⟩
                      go_wp2
                      have HH := Aside0.mk ((blk_cell (blk_new wo (.cells #[.int .i64 x0, .int .i64 x1, .string s, .slice A3 m3 c3, .slice A4 n4 c4, .int .i64 x5] 27)) 4).trans rfl)
                      have ha := Aside0.mk (below_alloc (Below.refl wo.heap.size wo) (.cells #[.int .i64 x0, .int .i64 x1, .string s, .slice A3 m3 c3, .slice A4 n4 c4, .int .i64 x5] 27))
                      go_loopg [79] n4 (fun kq v79 w' => ∃ j : Nat, v79 = .int .i64 (j : Int) ∧ Aside0 (j + kq = n4) ∧ Aside0 (w'.cell? ⟨wo.heap.size, 4, none⟩ = some (.slice A4 n4 c4)) ∧ Aside0 (Nums37 w5.heap.size w' (.slice A4 n4 c4)) ∧ Aside0 (IntRel w9 w') ∧ Aside0 (Below w5.heap.size w5 w'))
                      case atStart => exact ⟨0, rfl, ⟨by omega⟩, HH, ⟨HN4.out.keep (IntRel.below ha.out)⟩, ⟨HIR.out.trans (IntRel.below ha.out)⟩, ⟨below_alloc HE.out _⟩⟩
                      case round =>
                        clear HIR HE HN4 HH ha z0 z1 z2 z3 z4 z5
                        obtain ⟨j, rfl, HJ, HH, HN4, HIR, HE⟩ := hrel
                        have hdr := HH.out
                        by_cases hj : j < n4
                        · have b1 : decide ((j : Int) < (n4 : Int)) = true := decide_eq_true (by omega)
                          have p1 : (0 : Int) ≤ (j : Int) := by omega
                          have q1 : (j : Int) < (n4 : Int) := by omega
                          obtain ⟨A4', n4', c4', e4', hn4', h4⟩ := HN4.out
                          injection e4' with e1 e2 e3
                          subst e1 e2 e3
                          obtain ⟨b4, hb4, ea4, hz⟩ := h4 (by omega)
                          subst ea4
                          obtain ⟨z, hz1, hz2⟩ := hz j hj
                          have HB4 := Aside0.mk hb4
                          clear h4 hz hb4
                          replace p1 := eq_true p1
                          replace q1 := eq_true q1
                          go_wp2
                          go_roundg (n4 - (j + 1))
                          case measure => have := HJ.out; omega
                          case rel => exact ⟨j + 1, congrArg (Value.int .i64) (by omega), ⟨by omega⟩, ⟨(IntRel.store hz1).keep hdr (fun z h => by cases h)⟩, ⟨HN4.out.keep (IntRel.store hz1)⟩, ⟨HIR.out.trans (IntRel.store hz1)⟩, ⟨below_set HE.out HB4.out⟩⟩
                        · have b1 : decide ((j : Int) < (n4 : Int)) = false := decide_eq_false (by omega)
                          go_wp2
                          go_roundg (n9 - (i + 1))
                          case measure => have := HI.out; omega
                          case rel => exact ⟨i + 1, congrArg (Value.int .i64) (by omega), ⟨by omega⟩, HIR, HE⟩
                    · have b0 : decide ((i : Int) < (n9 : Int)) = false := decide_eq_false (by omega)
                      have HW := Aside0.mk (Kd.R_below HW5.out HE.out)
                      have HD := Aside0.mk (below_step HD5.out HE.out)
                      have BK := Aside0.mk (blk_below BK5.out HE.out)
                      clear HL9 HIR HE HI
                      obtain ⟨Aw, cw, ew⟩ := Kd.R_slice HW.out
                      subst ew
                      have hq9_0 : wr.cell? ⟨gb189, 0, none⟩ = some (.int .i64 a1_0) := (blk_cell BK.out 0).trans rfl; have hq9_1 : wr.cell? ⟨gb189, 1, none⟩ = some (.int .i64 a1_1) := (blk_cell BK.out 1).trans rfl; have hq9_2 : wr.cell? ⟨gb189, 2, none⟩ = some (.string a1_2) := (blk_cell BK.out 2).trans rfl; have hq9_3 : wr.cell? ⟨gb189, 3, none⟩ = some (.slice A1_3 l1_3.length c1_3) := (blk_cell BK.out 3).trans rfl; have hq9_4 : wr.cell? ⟨gb189, 4, none⟩ = some (.slice A1_4 l1_4.length c1_4) := (blk_cell BK.out 4).trans rfl; have hq9_5 : wr.cell? ⟨gb189, 5, none⟩ = some (.int .i64 a1_5) := (blk_cell BK.out 5).trans rfl
                      go_wp2_with (first | ((with_reducible refine gate_callee (f := 9) rfl ?_); refine goesL_ (some 103) rfl rfl Tryd.func9 (by kernel_rfl) rfl #[.slice (some ad205) l0.length c0, .int .i64 a1_0, .agg #[.int .i64 a1_1, .string a1_2, .slice A1_3 l1_3.length c1_3, .slice A1_4 l1_4.length c1_4], .int .i64 1, .int .i64 (wrap64 ((l0.length : Int) + 1))] rfl (by (try simp only [List.map_toArray, List.map_cons, List.map_nil]); first | done | rfl) ?_; refine (dead_Put.calls kj4 _ _ l0 a1_0 a1_1 a1_2 _ _ l1_3 _ _ l1_4 1 (wrap64 ((l0.length : Int) + 1)) t218 t221 _ (Kd.C_below HRc.out HD.out) HC0.out (Kd.C_below hX3.out HD.out) lX3.out (Kd.C_below hX4.out HD.out) lX4.out A32.out (Tabs.below HTc.out HD.out)).mono ?_; rintro e w10 ⟨va, rfl, ho0, hb⟩; refine ⟨_, rfl, ?_⟩; have HA := Aside0.mk ho0; have m0_ := Aside0.mk (below_step HD.out hb); have m1_ := Aside0.mk (Kd.R_below HW.out hb); clear HD HW BK; have HD := m0_; have HW := m1_; clear m0_ m1_ hb ho0; obtain ⟨Aa, ca, ea⟩ := Kd.R_slice HA.out; subst ea) | ((with_reducible refine gate_callee (f := 7) rfl ?_); refine goesL_ (some 106) rfl rfl Tryd.func7 (by kernel_rfl) rfl #[] rfl (by (try simp only [List.map_toArray, List.map_cons, List.map_nil]); first | done | rfl) ?_; refine (switchyardlaw19_awake.calls kj4 true _ A33.out (Tabs.below HTc.out HD.out)).mono ?_; rintro e w11 ⟨rfl, hb⟩; refine ⟨_, rfl, ?_⟩; have m0_ := Aside0.mk (below_step HD.out hb); have m1_ := Aside0.mk (Kd.R_below HW.out hb); have m2_ := Aside0.mk (Kd.R_below HA.out hb); clear HD HW HA; have HD := m0_; have HW := m1_; have HA := m2_; clear m0_ m1_ m2_ hb) | (go_at_call 11; refine calls_of_args (args' := #[.slice Aw t197.length cw, .slice Aa t218.length ca]) (by first | rfl) ?_; refine (switchyardlaw19_Same.calls kj4 _ _ t197 _ _ t218 t223 _ (Kd.N_reads' (Kd.R_N HW.out)).2.2 (Kd.N_reads' (Kd.R_N HW.out)).2.1 (Kd.N_reads' (Kd.R_N HA.out)).2.2 (Kd.N_reads' (Kd.R_N HA.out)).2.1 A37.out).mono ?_; rintro e w12 ⟨rfl, hb⟩; have m0_ := Aside0.mk (below_step HD.out hb); clear HD HW HA; have HD := m0_; clear m0_ hb))
                      go_ret
                      exact ⟨by first | rfl | (simp; done) | (simp [*]; done), below_step HBw.out HD.out⟩
                · rw [if_neg c36] at H
                  exact absurd H (by simp)
              · rw [if_neg c35] at H
                exact absurd H (by simp)
            · replace c34 := Bool.eq_false_iff.mpr c34
              subst c34
              have H1 : (none) = some r := by rw [if_neg (show ¬ (false = true) by decide)] at H; exact H
              clear H
              have H := H1
              clear H1
              exact absurd H (by simp)
          · rw [if_neg c30] at H
            exact absurd H (by simp)
  · replace c4 := Bool.eq_false_iff.mpr c4
    subst c4
    have H1 : (none) = some r := by rw [if_neg (show ¬ (false = true) by decide)] at H; exact H
    clear H
    have H := H1
    clear H1
    exact absurd H (by simp)
end Go.Proofs.YtknbebjphjpgpaaDoor.XD
namespace Go.Proofs.YtknbebjphjpgpaaDoor.XD
open Go.RowKit Go.Proofs.YtknbebjphjpgpaaDoorW.PrintWords Go.Proofs.YtknbebjphjpgpaaDoorW.PrintLast Go.Proofs.YtknbebjphjpgpaaDoorW.PrintMore
set_option linter.unusedVariables false
set_option linter.unusedSimpArgs false
theorem but_len (p : S27 → Bool) (l : List S27) (hl : l.length ≤ 4611686018427387904) : ∀ (k : Nat) (acc : List S27) (i : Nat) (t : List S27), i ≤ l.length → dead_but.l0 k p acc l (l.length : Int) (i : Int) = some t → t.length ≤ acc.length + (l.length - i)
  | 0, acc, i, t, hi, h => by simp [dead_but.l0] at h
  | k + 1, acc, i, t, hi, h => by
    simp only [dead_but.l0] at h
    by_cases c : (i : Int) < (l.length : Int)
    · have hlt : i < l.length := by omega
      rw [if_pos c, if_pos (by omega), if_pos c, wr_succ hlt (by omega)] at h
      obtain ⟨b, _, h⟩ := Option.bind_eq_some_iff.1 h
      by_cases hb : b = true
      · rw [if_pos hb] at h
        have := but_len p l hl k acc (i + 1) t (by omega) h
        omega
      · rw [if_neg hb] at h
        obtain ⟨y, _, h⟩ := Option.bind_eq_some_iff.1 h
        by_cases c2 : acc.length < 1599289640401
        · rw [if_pos c2] at h
          have := but_len p l hl k _ (i + 1) t (by omega) h
          simp only [List.length_append, List.length_cons, List.length_nil] at this
          omega
        · rw [if_neg c2] at h; cases h
    · rw [if_neg c] at h
      injection h with h
      subst h
      omega
theorem put_len {k : Nat} {l : List S27} {a1 a2 : Int} {b : ByteArray} {m1 m2 : List S37} {a3 a4 : Int} {r1 : List S27} {r2 : Int} (h : dead_Put.f k l a1 a2 b m1 m2 a3 a4 = some (r1, r2)) : r1.length ≤ l.length + 1 := by
  unfold dead_Put.f dead_at.f at h
  obtain ⟨w, _, h⟩ := Option.bind_eq_some_iff.1 h
  split at h
  · injection h with h; injection h with h1 h2; subst h1; simp
  · by_cases hl : l.length ≤ 4611686018427387904
    · rw [if_pos hl] at h
      obtain ⟨i, _, h⟩ := Option.bind_eq_some_iff.1 h
      split at h
      · injection h with h; injection h with h1 h2; subst h1; simp
      · split at h
        · injection h with h; injection h with h1 h2; subst h1; simp
        · obtain ⟨t, ht, h⟩ := Option.bind_eq_some_iff.1 h
          obtain ⟨y, _, h⟩ := Option.bind_eq_some_iff.1 h
          split at h
          · injection h with h
            injection h with h1 h2
            subst h1
            have := but_len _ l hl k [] 0 t (by omega) ht
            simp only [List.length_append, List.length_cons, List.length_nil] at this ⊢
            omega
          · cases h
    · rw [if_neg hl] at h; cases h
theorem own_j (l : List S27) (x : S27) (b : Bool) (hb : b = false → (OkA l ∧ l.length ≤ 100) ∧ OkL x ∧ 0 < l.length) : Ev (fun k => switchyardlaw19_DeadOwn.j0 k l b x.f0 x.f1.f0 x.f1.f1 x.f1.f2 x.f1.f3 x.f2) true := by
  refine Ev.step (fun k => by simp only [switchyardlaw19_DeadOwn.j0]; rfl) ?_
  by_cases h : b = true
  · exact Ev.pos h (Ev.bind awake_ev (Ev.now _))
  · obtain ⟨⟨h1, h2⟩, h3, h4⟩ := hb (by simpa using h)
    have hp := put_ev l ⟨x.f0, x.f1, 1⟩ (wrap64 ((l.length : Int) + 1)) h1 h3
    refine Ev.neg h (Ev.bind hp (Ev.bind hp (Ev.pos (by omega) (Ev.bind (find_ev l _ h1) (Ev.bind hp (Ev.bind awake_ev (Ev.pos rfl ?_)))))))
    refine Ev.pos (by trivial) (Ev.pos (by trivial) (Ev.bind (same19_ev _ _ (okA_put (x := ⟨x.f0, x.f1, 1⟩) h1 h2 h3)) (Ev.val ?_)))
    simp
theorem own_ev (l : List S27) (x : S27) (hl : l.length ≤ 4611686018427387904) (h1 : smallB l = true → OkA l ∧ l.length ≤ 100) (h2 : smallB [x] = true → OkL x) : Ev (fun k => switchyardlaw19_DeadOwn.f k l x.f0 x.f1.f0 x.f1.f1 x.f1.f2 x.f1.f3 x.f2) true := by
  unfold switchyardlaw19_DeadOwn.f
  refine Ev.bind awake_ev (Ev.pos rfl (Ev.bind (small_ev l hl) ?_))
  by_cases hs : smallB l = true
  · refine Ev.pos hs (Ev.bind (small_ev [x] (by simp)) ?_)
    by_cases hx : smallB [x] = true
    · refine Ev.pos hx (own_j l x _ (fun hb => ⟨h1 hs, h2 hx, ?_⟩))
      simp at hb
      exact List.length_pos_iff.2 hb
    · exact Ev.neg hx (own_j l x true (fun hb => by cases hb))
  · exact Ev.neg hs (own_j l x true (fun hb => by cases hb))
theorem len27' {l : List S27} (h : l.length * Tryd.prog.bytesOf 27 ≤ 140737488351232) : l.length ≤ 1599289640354 := by
  have e : Tryd.prog.bytesOf 27 = 88 := by kernel_rfl
  rw [e] at h; omega
set_option maxHeartbeats 1000000 in
theorem own_walk (A0 : Option Addr) (c0 : Nat) (l0 : (List S27)) (a1_0 : Int) (a1_1 : Int) (a1_2 : ByteArray) (A1_3 : Option Addr) (c1_3 : Nat) (l1_3 : (List S37)) (A1_4 : Option Addr) (c1_4 : Nat) (l1_4 : (List S37)) (a1_5 : Int) (W : World) (hC0 : Kd.C k27 W A0 l0.length l0) (hc0 : l0.length ≤ c0) (hG0 : (l0.length * Tryd.prog.bytesOf 27 ≤ 140737488351232 ∧ l0.length ≤ maxLen ∧ ∀ y ∈ l0, G27 y)) (hG1_0 : (Lit.int .i64 a1_0).wf = true) (hG1_1 : (Lit.int .i64 a1_1).wf = true) (hG1_2 : a1_2.size ≤ 140737488351232) (hC1_3 : Kd.C k37 W A1_3 l1_3.length l1_3) (hc1_3 : l1_3.length ≤ c1_3) (hG1_3 : (l1_3.length * Tryd.prog.bytesOf 37 ≤ 140737488351232 ∧ l1_3.length ≤ maxLen ∧ ∀ y ∈ l1_3, G37 y)) (hC1_4 : Kd.C k37 W A1_4 l1_4.length l1_4) (hc1_4 : l1_4.length ≤ c1_4) (hG1_4 : (l1_4.length * Tryd.prog.bytesOf 37 ≤ 140737488351232 ∧ l1_4.length ≤ maxLen ∧ ∀ y ∈ l1_4, G37 y)) (hG1_5 : (Lit.int .i64 a1_5).wf = true) (hT : Tabs W) :
    Calls Tryd.prog 3 #[.slice A0 l0.length c0, .agg #[.int .i64 a1_0, .int .i64 a1_1, .string a1_2, .slice A1_3 l1_3.length c1_3, .slice A1_4 l1_4.length c1_4, .int .i64 a1_5]] W fun e w' => e = .returned (.bool true) ∧ Below W.heap.size W w' := by
  obtain ⟨k, hk⟩ := Ev.rounds (own_ev l0 ⟨a1_0, ⟨a1_1, a1_2, l1_3, l1_4⟩, a1_5⟩ (len27 hG0.1) (okA_of hG0.2.2) (okX_of hG1_3.2.2 hG1_4.2.2))
  exact switchyardlaw19_DeadOwn.calls k A0 c0 l0 a1_0 a1_1 a1_2 _ A1_3 c1_3 l1_3 _ A1_4 c1_4 l1_4 a1_5 (fun k r1 r2 h => by have := put_len h; have := len27' hG0.1; omega) true W hC0 hc0 (came 37 heap37 hC1_3 hc1_3) (came 37 heap37 hC1_4 hc1_4) hk hT
end Go.Proofs.YtknbebjphjpgpaaDoor.XD
namespace Go.Proofs.YtknbebjphjpgpaaDoor.XD
open Go.RowKit Go.Proofs.YtknbebjphjpgpaaDoorW.PrintWords Go.Proofs.YtknbebjphjpgpaaDoor.Open
theorem strs_of_reads {P : Program} {W : World} {l : List (String × DataW Unit)} {name : String} (zs : List (List UInt8)) {g : Nat} {t e : TypeId} {n : Nat} (hp : (l.all fun x => x.2.handleName?.isNone) = true) (h : laidMetH P l W) (hm : (name, .agg (zs.map fun z => .lit (.string z))) ∈ l)
    (hg : P.globalNamed name = some g) (hty : (P.globals[g]?).map (·.type) = some t) (ht : P.underlying t = some (.array n e)) (he : P.underlying e = some .string) (hce : P.cellsOf e = 1) (hct : P.cellsOf t = n) : W.var? P name = some (zs.map fun z => Value.string ⟨z.toArray⟩).toArray := by
  rw [MakeChecks.laidMetH_plain _ _ _ hp] at h
  obtain ⟨g', t', cs, fuel, p, hg', ht', hvar, hd⟩ := Lib.laidMet.reads h hm
  obtain rfl := Option.some.inj (hg.symm.trans hg')
  obtain rfl := Option.some.inj (hty.symm.trans ht')
  rw [hvar, ← cells_of_strs ht he hce hct hd]
end Go.Proofs.YtknbebjphjpgpaaDoor.XD
namespace Go.Proofs.YtknbebjphjpgpaaDoor.deadOwn
open Go.ChangeShapes Go.WideShapes Go.ChangeAt Go.RowKit
open Go.ChangeMaps (open_string shut_string)
open Go.Proofs.YtknbebjphjpgpaaDoorW.PrintWords Go.Proofs.YtknbebjphjpgpaaDoor.Open Go.Proofs.YtknbebjphjpgpaaDoor.XD
set_option linter.unusedVariables false
theorem door_met (os : Os) (args : Array Value) : laidMetH Tryd.prog Rows.deadOwnRow.laid ((World.doorLaid Tryd.prog 24 os).forCall (fun _ _ => 0) ⟨#[], args, []⟩).memory :=
  laidMetH_of_parts3 (fuel := 8) (laidMet_of_run' 8 (by kernel_rfl) (by kernel_rfl)) (by kernel_rfl) (by kernel_rfl)
theorem tabs_of {W : World} (h : laidMetH Tryd.prog Rows.deadOwnRow.laid W) : Tabs W :=
  strs_of_reads wordL (by kernel_rfl) h (by exact .head _) (g := 0) (by kernel_rfl) (by kernel_rfl) (n := 6) Tryd.underlying52 Tryd.underlying9 (by kernel_rfl) (by kernel_rfl)
theorem own : ownKnob Tryd.prog.godebug = none := by kernel_rfl
theorem laidOut : laidOutB Tryd.prog = true := by kernel_rfl
set_option maxRecDepth 100000 in
theorem lifted (os : Os) (started : os.Started) (H : Type) (enc : TypeId × Value → H) :
    ReturnsInHanded {} Tryd.checked os 3 .any (fun w args => (Rows.deadOwnSpec.pre enc Tryd.prog Tryd.f3 [] false w args ∧ laidMetH Tryd.prog Rows.deadOwnRow.laid w) ∧ sizedMet enc Tryd.prog Tryd.f3 (OpenSpec.ofChange Rows.deadOwnSpec) false w args) (Rows.deadOwnSpec.post enc Tryd.prog Tryd.f3 false true false false) := by
  refine returnsInHanded_of_change_and (C := Tryd.checked) (X := fun w _ => laidMetH Tryd.prog Rows.deadOwnRow.laid w) (fun _ _ _ hh h => h.of_heap hh) own started (by kernel_rfl) Tryd.func3
    (ChangeSpec.witness_shaped (enc := enc) (C := Tryd.checked) (os := os) (X := fun w _ => laidMetH Tryd.prog Rows.deadOwnRow.laid w) false (World.doorLaid Tryd.prog 24 os) #[.slice none 0 0, .agg #[.int .i64 0, .int .i64 0, .string ByteArray.empty, .slice none 0 0, .slice none 0 0, .int .i64 0]] 8 rfl (World.shaped_of_RefB (by kernel_rfl) (by kernel_rfl)) (by kernel_rfl) (by kernel_rfl) (by kernel_rfl) (door_met os _)) ?_
  intro W base args ds gs before hval0 hW hcnd hsz0 hL _
  have hsz : (DataW.weightsEach Tryd.prog (Tryd.f3.params.toList ++ Rows.deadOwnSpec.plain.varTypes Tryd.prog) (ds ++ gs)).all (· ≤ reachBytes) = true := hsz0
  have hval : ∀ (j : Nat) t v, Tryd.f3.params[j]? = some t → args[j]? = some v → Value.okWide Tryd.prog W .any base t v := hval0
  have hW' := hW
  obtain ⟨p, q, hA0, hV, rfl, hfz, hnd⟩ := hW
  have hA : DataW.TrodAll enc Tryd.prog W 0 (fun _ => true) true Tryd.f3.params.toList args.toList ds p := hA0
  rw [Tryd.params3] at hA hval hsz
  obtain ⟨v0, vs0, d0, ds0, p0, q0, hargs, rfl, rfl, h0, r0⟩ := trodAll_cons hA
  obtain ⟨v1, vs1, d1, ds1, p1, q1, rfl, rfl, rfl, h1, r1⟩ := trodAll_cons r0
  obtain ⟨rfl, rfl, rfl⟩ := trodAll_nil r1
  obtain rfl : args = #[v0, v1] := by cases args; simp_all
  obtain ⟨rfl, rfl⟩ := trodVars_none hV
  have k0 := h0
  have lt0 : ∀ x ∈ p0, x.block < W.heap.size := by obtain ⟨m, hm⟩ := k0; exact DataW.trod_lt m _ _ _ hm
  have wt0 := Open.arg_weights hsz (j := 0) (t := 22) (d := d0) rfl rfl
  obtain ⟨l0, hK0, hG0⟩ := Opens.arg (k := (Kd.slice 27 k27)) (fun _ => (opens_slice' Tryd.underlying22 (by kernel_rfl) (fun _ _ => (opens_k27 _)))) h0 wt0
  obtain ⟨b0, len0, cap0, rfl⟩ := okWide_slice Tryd.underlying22 (hval 0 22 v0 rfl rfl)
  obtain ⟨A0, c0, he0, hc0, hC0⟩ := hK0
  simp only [Value.cells] at he0
  injection he0 with he0 _
  injection he0 with e10 e20 e30
  subst e10 e20 e30
  have k1 := h1
  have lt1 : ∀ x ∈ p1, x.block < W.heap.size := by obtain ⟨m, hm⟩ := k1; exact DataW.trod_lt m _ _ _ hm
  have wt1 := Open.arg_weights hsz (j := 1) (t := 27) (d := d1) rfl rfl
  obtain ⟨x1, hK1, hG1⟩ := Opens.arg (k := (Kd.pair (Kd.int .i64) (Kd.pair (Kd.pair (Kd.int .i64) (Kd.pair Kd.string (Kd.pair (Kd.slice 37 k37) (Kd.slice 37 k37)))) (Kd.int .i64)))) (fun _ => (opens_struct' id id (fun _ => rfl) Tryd.underlying27 (by kernel_rfl) (fun _ _ => (OpensF.cons rfl (by kernel_rfl) (opens_int Tryd.underlying2) (OpensF.cons rfl (by kernel_rfl) (opens_struct' id id (fun _ => rfl) Tryd.underlying25 (by kernel_rfl) (fun _ _ => (OpensF.cons rfl (by kernel_rfl) (opens_int Tryd.underlying2) (OpensF.cons rfl (by kernel_rfl) (opens_string Tryd.underlying9) (OpensF.cons rfl (by kernel_rfl) (opens_slice' Tryd.underlying23 (by kernel_rfl) (fun _ _ => (opens_k37 _))) (OpensF.last rfl (by kernel_rfl) (opens_slice' Tryd.underlying23 (by kernel_rfl) (fun _ _ => (opens_k37 _))))))))) (OpensF.last rfl (by kernel_rfl) (opens_int Tryd.underlying3))))))) h1 wt1
  obtain ⟨cs1, rfl, hs1⟩ := okWide_struct Tryd.underlying27 (hval 1 27 v1 rfl rfl)
  obtain ⟨a1_0, ⟨a1_1, a1_2, l1_3, l1_4⟩, a1_5⟩ := x1
  simp only [Value.cells] at hK1
  generalize hcs1 : cs1.toList = ct1 at hK1
  obtain ⟨_, _, rfl, rfl, ⟨_, _, rfl, ⟨_, _, rfl, rfl, ⟨_, _, rfl, rfl, ⟨_, _, rfl, ⟨A1_3, c1_3, rfl, hc1_3, hC1_3⟩, ⟨A1_4, c1_4, rfl, hc1_4, hC1_4⟩⟩⟩⟩, rfl⟩⟩ := hK1
  obtain rfl : cs1 = #[.int .i64 a1_0, .int .i64 a1_1, .string a1_2, .slice A1_3 l1_3.length c1_3, .slice A1_4 l1_4.length c1_4, .int .i64 a1_5] := by cases cs1; simpa using hcs1
  clear hA0 hval0 hsz0 hsz
  have hT := tabs_of hL
  refine (own_walk b0 cap0 l0 a1_0 a1_1 a1_2 A1_3 c1_3 l1_3 A1_4 c1_4 l1_4 a1_5 W hC0 hc0 hG0 hG1.1 hG1.2.1.1 hG1.2.1.2.1 hC1_3 hc1_3 hG1.2.1.2.2.1 hC1_4 hc1_4 hG1.2.1.2.2.2 hG1.2.2 hT).mono fun e W' ⟨he, bel⟩ => ?_
  subst he
  exact ⟨_, rfl, _, _, _, [], _, [], hW', trodAll_mk1 (shut_bool Tryd.underlying4 _), (trodAll_cons_mk (Below.trod laidOut (by kernel_rfl) (of_decide_eq_true (by kernel_rfl)) k0 bel lt0) (trodAll_cons_mk (Below.trod laidOut (by kernel_rfl) (of_decide_eq_true (by kernel_rfl)) k1 bel lt1) trodAll_mk0)), rfl, bel.frame _, fun h => by cases h⟩
theorem over : Rows.deadOwnRow.holds Tryd.pinned (OpenSpec.ofChange Rows.deadOwnSpec) :=
  OpenClaim.holds_of_wide 3 Tryd.f3 rfl rfl rfl rfl rfl rfl rfl ⟨rfl, rfl, rfl, rfl, rfl⟩ rfl rfl rfl rfl rfl (by kernel_rfl) Tryd.func3 (by kernel_rfl)
    (of_decide_eq_true (by kernel_rfl)) (by unfold Func.isWrapper; first | (rw [if_pos (by decide +kernel)]; kernel_rfl) | (rw [if_neg (by decide +kernel)]; exact ⟨rfl, rfl⟩))
    (fun os started H enc _ => lifted os started H enc)
theorem proved : Rows.DeadOwnSaid := over
theorem card_proved : Rows.DeadOwnCardSaid :=
  Claim7.holds_tied_plain_at .later [] [.data] true (true, "082a175ab3fb4a6814a4ab67dadfecd13186a509aa05699093f69527edcefca9") false proved (fun _ h => by cases h) (by kernel_rfl) (fun _ h => by cases h) deadOwn_row_tie rfl ⟨rfl, rfl⟩ (by kernel_rfl) rfl
    (fun f fn hf hfn => by
      obtain rfl : f = 3 := Option.some.inj ((show Tryd.prog.funcNamed "switchyard/switchyardlaw19.DeadOwn" = some 3 by kernel_rfl).symm.trans hf) |>.symm
      obtain rfl : fn = Tryd.f3 := (Option.some.inj (Tryd.func3.symm.trans hfn)).symm
      exact ⟨by kernel_rfl, fun j t ht => by
        rw [Tryd.params3] at ht
        have hm : t ∈ [22, 27] := by simpa using Array.mem_of_getElem? ht
        have hall : ([22, 27].all fun u => !Tryd.prog.wantsStandIn u) = true := by kernel_rfl
        exact (show Tryd.prog.wantsStandIn t = false by simpa using List.all_eq_true.1 hall t hm)⟩)
    (by kernel_rfl)
end Go.Proofs.YtknbebjphjpgpaaDoor.deadOwn
namespace Go.Proofs.YtknbebjphjpgpaaDoor
/-- The card, under a short name, for the claim. -/
theorem deadOwn_holds : Rows.DeadOwnCardSaid := deadOwn.card_proved
end Go.Proofs.YtknbebjphjpgpaaDoor
