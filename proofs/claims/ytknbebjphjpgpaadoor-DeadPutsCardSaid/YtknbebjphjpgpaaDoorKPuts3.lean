/- Words, printed functions and plain lemmas that the claim's theorem reaches (gathered by a program of this session out of its own and the print's texts). No conditions but those that each statement names. -/
import Derived.Test.YtknbebjphjpgpaaDoorKPuts2
namespace Go.Proofs.YtknbebjphjpgpaaDoor.XD
open Go.RowKit Go.Proofs.YtknbebjphjpgpaaDoorW.PrintWords Go.Proofs.YtknbebjphjpgpaaDoorW.PrintLast Go.Proofs.YtknbebjphjpgpaaDoorW.PrintMore
attribute [local go_sem] max2_int min2_int max_two min_two max_three min_three max_four min_four   -- for this text's walks alone
set_option linter.unusedVariables false
set_option linter.unusedSimpArgs false
def switchyardref19_Put.j0 : Nat → List (S27) → Int → Int → Int → Bool → Int → ByteArray → List (S37) → List (S37) → Option ((List (S27)) × Int)
  | 0, _, _, _, _, _, _, _, _, _ => none
  | k + 1, x0, x1, x3, x4, x19, x195000, x195001, x195002, x195003 => if x19 = true then (some (([] : List (S27)), 2)) else ((switchyardref19_Find.f k x0 x1).bind fun bt195 => (if bt195.2.2.2.2.2.2 = true then (some (([] : List (S27)), 21)) else (if (x0.length : Int) ≥ x4 then (some (([] : List (S27)), 42)) else ((some (([] : List (S27)) : List (S27))).bind fun y207 => (if y207.length + x0.length < 1599289640401 then ((some (y207 ++ x0 : List (S27))).bind fun y210 => ((some (([(⟨x1, (⟨x195000, x195001, x195002, x195003⟩ : S25), x3⟩ : S27)] : List (S27)) : List (S27))).bind fun y213 => (if y210.length + y213.length < 1599289640401 then (some ((y210 ++ y213), 0)) else (none)))) else (none))))))
def switchyardref19_Put.f (k : Nat) (l0 : List (S27)) (a1 : Int) (a2_0 : Int) (a2_1 : ByteArray) (l2_2 : List (S37)) (l2_3 : List (S37)) (a3 : Int) (a4 : Int) : Option ((List (S27)) × Int) := if a3 < 1 then (switchyardref19_Put.j0 k l0 a1 a3 a4 true a2_0 a2_1 l2_2 l2_3) else (switchyardref19_Put.j0 k l0 a1 a3 a4 (decide (a3 > 5)) a2_0 a2_1 l2_2 l2_3)
def switchyardref19_Put.T8 : Bool × List (List Nat × List Nat) := (true, [([], []), ([], []), ([0, 1], [0, 1]), ([], []), ([], []), ([], []), ([3, 4, 5], [3, 4, 5]), ([6], [6]), ([2, 7, 2], [2, 7]), ([8, 8, 0, 1, 2, 3, 4, 5, 6, 7, 8], [8]), ([9, 0, 1, 2, 3, 4, 5, 6, 7, 8, 9], [])])
def switchyardref19_Put.B8 : List Nat := [0, 0, 3, 0, 0, 0, 56, 120, 255, 511, 1023]
theorem switchyardref19_Put.tab8 : rtab .any (opsOf Tryd.f14 8) = switchyardref19_Put.T8 := by kernel_rfl
theorem switchyardref19_Put.bits8 : waitsOk switchyardref19_Put.T8.2 switchyardref19_Put.B8 = true := by kernel_rfl
set_option maxHeartbeats 600000 in
set_option maxRecDepth 100000 in
theorem switchyardref19_Put.calls (k : Nat) (P0_ : Nat → Prop) (A0 : Option Addr) (c0 : Nat) (l0 : List (S27)) (a1 : Int) (a2_0 : Int) (a2_1 : ByteArray) (P2_2_ : Nat → Prop) (A2_2 : Option Addr) (c2_2 : Nat) (l2_2 : List (S37)) (P2_3_ : Nat → Prop) (A2_3 : Option Addr) (c2_3 : Nat) (l2_3 : List (S37)) (a3 : Int) (a4 : Int) (r1 : List (S27)) (r2 : Int) (w : World) (hs0 : Kd.V k27 27 w w.heap.size (fun k_ => P0_ k_) (.slice A0 l0.length c0) l0) (hs2_2 : Kd.V k37 37 w w.heap.size (fun k_ => P2_2_ k_) (.slice A2_2 l2_2.length c2_2) l2_2) (hs2_3 : Kd.V k37 37 w w.heap.size (fun k_ => P2_3_ k_) (.slice A2_3 l2_3.length c2_3) l2_3) (h : switchyardref19_Put.f k l0 a1 a2_0 a2_1 l2_2 l2_3 a3 a4 = some (r1, r2)) :
    Calls Tryd.prog 14 #[.slice A0 l0.length c0, .int .i64 a1, .agg #[.int .i64 a2_0, .string a2_1, .slice A2_2 l2_2.length c2_2, .slice A2_3 l2_3.length c2_3], .int .i64 a3, .int .i64 a4] w fun e w' => ∃ v0_ : Value, e = .returned (.tuple #[v0_, .int .i64 r2]) ∧ Kd.N k27 27 w' w.heap.size (fun k_ => ((P0_ k_ ∨ P2_2_ k_ ∨ P2_3_ k_) ∨ w.heap.size ≤ k_)) v0_ r1 ∧ Below w.heap.size w w' := by
  have hu25 := Tryd.underlying25
  have hu27 := Tryd.underlying27
  have HO0 := Aside0.mk (show Kd.V k27 27 w w.heap.size (fun k_ => ((P0_ k_ ∨ P2_2_ k_ ∨ P2_3_ k_) ∨ w.heap.size ≤ k_)) (.slice A0 l0.length c0) l0 from Kd.V_mono hs0 (fun k_ hk => .inl (.inl hk)))
  have HO2_2 := Aside0.mk (show Kd.V k37 37 w w.heap.size (fun k_ => ((P0_ k_ ∨ P2_2_ k_ ∨ P2_3_ k_) ∨ w.heap.size ≤ k_)) (.slice A2_2 l2_2.length c2_2) l2_2 from Kd.V_mono hs2_2 (fun k_ hk => .inl (.inr (.inl hk))))
  have HO2_3 := Aside0.mk (show Kd.V k37 37 w w.heap.size (fun k_ => ((P0_ k_ ∨ P2_2_ k_ ∨ P2_3_ k_) ∨ w.heap.size ≤ k_)) (.slice A2_3 l2_3.length c2_3) l2_3 from Kd.V_mono hs2_3 (fun k_ hk => .inl (.inr (.inr hk))))
  have HB := Aside0.mk (Below.refl w.heap.size w)
  have H : (if a3 < 1 then (switchyardref19_Put.j0 k l0 a1 a3 a4 true a2_0 a2_1 l2_2 l2_3) else (switchyardref19_Put.j0 k l0 a1 a3 a4 (decide (a3 > 5)) a2_0 a2_1 l2_2 l2_3)) = some (r1, r2) := h
  clear h
  have HC6 := Aside0.mk H
  clear H
  go_enter Tryd.func14, Tryd.ntmps14
  go_upto_region 1 with (first | ((with_reducible refine gate_dst (N := 7) rfl ?_); refine box_event ?hg (N := 7) ?hd (cs := #[.int .i64 a2_0, .string a2_1, .slice A2_2 l2_2.length c2_2, .slice A2_3 l2_3.length c2_3]) (t := 25) ?hr ?_; (case hd => rfl); (case hg => rfl); (case hr => first | (go_simp; done) | (go_simp; rfl)); intro gb194 hg w7 hbox hb; have n0_ := Aside0.mk (Kd.V_below (Kd.V_elderB (by (with_reducible repeat (first | apply Kd.V_alloc | apply Kd.V_drewN | apply Kd.V_drew)); exact HO0.out) gb194 (Nat.le_of_eq hg.symm)) hb); have n1_ := Aside0.mk (Kd.V_below (Kd.V_elderB (by (with_reducible repeat (first | apply Kd.V_alloc | apply Kd.V_drewN | apply Kd.V_drew)); exact HO2_2.out) gb194 (Nat.le_of_eq hg.symm)) hb); have n2_ := Aside0.mk (Kd.V_below (Kd.V_elderB (by (with_reducible repeat (first | apply Kd.V_alloc | apply Kd.V_drewN | apply Kd.V_drew)); exact HO2_3.out) gb194 (Nat.le_of_eq hg.symm)) hb); have n3_ := Aside0.mk (below_step (by repeat (first | (with_reducible first | exact HB.out | apply below_alloc | apply pw_below_drewN | apply below_drew1) | exact HB.out)) hb); have n4_ := Aside0.mk (hbox); have n5_ := Aside0.mk ((by rw [hg]; exact (below_size (by repeat (first | (with_reducible first | exact HB.out | apply below_alloc | apply pw_below_drewN | apply below_drew1) | exact HB.out))) : w.heap.size ≤ gb194)); have n6_ := Aside0.mk ((by rw [hg]; exact (below_size (by repeat (first | (with_reducible first | exact HB.out | apply below_alloc | apply pw_below_drewN | apply below_drew1) | exact HB.out))) : w.heap.size ≤ gb194)); clear HO0; clear HO2_2; clear HO2_3; clear HB; have HO0 := n0_; have HO2_2 := n1_; have HO2_3 := n2_; have HB := n3_; have BK194 := n4_; have GW194 := n5_; have GE194 := n6_; clear n0_ n1_ n2_ n3_ n4_ n5_ n6_; clear hb hbox hg))
  (try simp only [Act.put, List.setIfInBounds_toArray, List.set_cons_zero, List.set_cons_succ])
  go_cut [19] (fun v19 wc => ∃ (kq : Nat) (x19_5 : Bool), v19 = .bool x19_5 ∧ Aside0 (switchyardref19_Put.j0 kq l0 a1 a3 a4 x19_5 a2_0 a2_1 l2_2 l2_3 = some (r1, r2)) ∧ Aside0 (kq ≤ k) ∧ Aside0 (Kd.V k27 27 wc w.heap.size (fun k_ => ((P0_ k_ ∨ P2_2_ k_ ∨ P2_3_ k_) ∨ w.heap.size ≤ k_) ∧ k_ ≠ gb194) (.slice A0 l0.length c0) l0) ∧ Aside0 (Kd.V k37 37 wc w.heap.size (fun k_ => ((P0_ k_ ∨ P2_2_ k_ ∨ P2_3_ k_) ∨ w.heap.size ≤ k_) ∧ k_ ≠ gb194) (.slice A2_2 l2_2.length c2_2) l2_2) ∧ Aside0 (Kd.V k37 37 wc w.heap.size (fun k_ => ((P0_ k_ ∨ P2_2_ k_ ∨ P2_3_ k_) ∨ w.heap.size ≤ k_) ∧ k_ ≠ gb194) (.slice A2_3 l2_3.length c2_3) l2_3) ∧ Aside0 (wc.heap[gb194]? = some (.cells #[.int .i64 a2_0, .string a2_1, (.slice A2_2 l2_2.length c2_2), (.slice A2_3 l2_3.length c2_3)] 25 (0, 0))) ∧ Aside0 (Below w.heap.size w wc))
  case first =>
    have H := HC6.out
    clear HC6
    by_cases c8 : a3 < 1
    · rw [if_pos c8] at H
      have c8b0 : decide (a3 < 1) = true := decide_eq_true c8
      clear c8
      (first | rw [c8b0] | (simp only [i64_w, i32_w]; rw [c8b0]) | skip)
      have H' := Aside0.mk H
      clear H
      go_wp2
      go_meet
      case rel => exact ⟨_, (true), (by first | rfl | (simp; done) | (simp [*]; done)), H', ⟨by first | omega | exact Nat.le_refl _⟩, ⟨by (with_reducible repeat (first | apply Kd.V_alloc | apply Kd.V_drewN | apply Kd.V_drew)); exact HO0.out⟩, ⟨by (with_reducible repeat (first | apply Kd.V_alloc | apply Kd.V_drewN | apply Kd.V_drew)); exact HO2_2.out⟩, ⟨by (with_reducible repeat (first | apply Kd.V_alloc | apply Kd.V_drewN | apply Kd.V_drew)); exact HO2_3.out⟩, ⟨by (with_reducible repeat (first | refine blk_drewN ?_ _ | refine blk_drew ?_ | refine blk_alloc ?_ _)); exact BK194.out⟩, ⟨by repeat (first | (with_reducible first | exact HB.out | apply below_alloc | apply pw_below_drewN | apply below_drew1 | refine below_set ?_ GE194.out) | exact HB.out)⟩⟩
    · rw [if_neg c8] at H
      have c8b0 : decide (a3 < 1) = false := decide_eq_false c8
      clear c8
      (first | rw [c8b0] | (simp only [i64_w, i32_w]; rw [c8b0]) | skip)
      have H' := Aside0.mk H
      clear H
      go_wp2
      go_meet
      case rel => exact ⟨_, (decide (a3 > 5)), (by first | rfl | (simp; done) | (simp [*]; done)), H', ⟨by first | omega | exact Nat.le_refl _⟩, ⟨by (with_reducible repeat (first | apply Kd.V_alloc | apply Kd.V_drewN | apply Kd.V_drew)); exact HO0.out⟩, ⟨by (with_reducible repeat (first | apply Kd.V_alloc | apply Kd.V_drewN | apply Kd.V_drew)); exact HO2_2.out⟩, ⟨by (with_reducible repeat (first | apply Kd.V_alloc | apply Kd.V_drewN | apply Kd.V_drew)); exact HO2_3.out⟩, ⟨by (with_reducible repeat (first | refine blk_drewN ?_ _ | refine blk_drew ?_ | refine blk_alloc ?_ _)); exact BK194.out⟩, ⟨by repeat (first | (with_reducible first | exact HB.out | apply below_alloc | apply pw_below_drewN | apply below_drew1 | refine below_set ?_ GE194.out) | exact HB.out)⟩⟩
  case rest =>
    clear HC6
    try clear c1
    try clear c2
    try clear p2
    try clear c8
    try clear c8b0
    obtain ⟨kq, x19_5, rfl, HA, HJ5, HO_0, HO_195002, HO_195003, BK194, HB⟩ := hcut
    cases kq with
    | zero => exact absurd HA.out (by simp [switchyardref19_Put.j0])
    | succ kj5 =>
      have H := HA.out
      clear HA
      simp only [switchyardref19_Put.j0] at H
      by_cases c9 : x19_5 = true
      · subst c9
        have H1 : (some (([] : List (S27)), 2)) = some (r1, r2) := by rw [if_pos rfl] at H; exact H
        clear H
        have H := H1
        clear H1
        simp only [Option.some.injEq, Prod.mk.injEq] at H
        obtain ⟨rfl, rfl⟩ := H
        go_wp2
        go_ret2
        exact ⟨_, by first | rfl | (simp [errW_none, errW_some] <;> rfl) | (simp [*, errW_none, errW_some] <;> rfl), by first | exact Kd.R_nil _ _ _ _ _ | exact Kd.N_nil _ _ _ _ _ | exact Kd.V_nil _ _ _ _ _ | exact Kd.Q_nil _ _ _ _ _ | exact Kd.S_nil _ _ _ _ _, by repeat (first | (with_reducible first | exact HB.out | apply below_alloc | apply pw_below_drewN | apply below_drew1 | refine below_set ?_ GE194.out) | exact HB.out)⟩
      · replace c9 := Bool.eq_false_iff.mpr c9
        subst c9
        have H1 : ((switchyardref19_Find.f kj5 l0 a1).bind fun bt195 => (if bt195.2.2.2.2.2.2 = true then (some (([] : List (S27)), 21)) else (if (l0.length : Int) ≥ a4 then (some (([] : List (S27)), 42)) else ((some (([] : List (S27)) : List (S27))).bind fun y207 => (if y207.length + l0.length < 1599289640401 then ((some (y207 ++ l0 : List (S27))).bind fun y210 => ((some (([(⟨a1, (⟨a2_0, a2_1, l2_2, l2_3⟩ : S25), a3⟩ : S27)] : List (S27)) : List (S27))).bind fun y213 => (if y210.length + y213.length < 1599289640401 then (some ((y210 ++ y213), 0)) else (none)))) else (none)))))) = some (r1, r2) := by rw [if_neg (show ¬ (false = true) by decide)] at H; exact H
        clear H
        have H := H1
        clear H1
        replace H := Option.bind_eq_some_iff.mp H
        obtain ⟨⟨t195, t196, t197, t198, t201, t204, t205⟩, A100, H⟩ := H
        replace H : (if t205 = true then (some (([] : List (S27)), 21)) else (if (l0.length : Int) ≥ a4 then (some (([] : List (S27)), 42)) else ((some (([] : List (S27)) : List (S27))).bind fun y207 => (if y207.length + l0.length < 1599289640401 then ((some (y207 ++ l0 : List (S27))).bind fun y210 => ((some (([(⟨a1, (⟨a2_0, a2_1, l2_2, l2_3⟩ : S25), a3⟩ : S27)] : List (S27)) : List (S27))).bind fun y213 => (if y210.length + y213.length < 1599289640401 then (some ((y210 ++ y213), 0)) else (none)))) else (none))))) = some (r1, r2) := H
        have A10 := Aside0.mk A100
        clear A100
        by_cases c11 : t205 = true
        · subst c11
          have H1 : (some (([] : List (S27)), 21)) = some (r1, r2) := by rw [if_pos rfl] at H; exact H
          clear H
          have H := H1
          clear H1
          simp only [Option.some.injEq, Prod.mk.injEq] at H
          obtain ⟨rfl, rfl⟩ := H
          go_wp2_with (first | ((with_reducible refine gate_callee (f := 17) rfl ?_); refine goesL_ (some 23) rfl rfl Tryd.func17 (by kernel_rfl) rfl #[.slice A0 l0.length c0, .int .i64 a1] rfl (by (try simp only [List.map_toArray, List.map_cons, List.map_nil]); first | done | rfl | (simp only [List.length_drop, List.length_take]; rfl)) ?_; (with_reducible refine (switchyardref19_Find.calls kj5 (fun k_ => (((P0_ k_ ∨ P2_2_ k_ ∨ P2_3_ k_) ∨ w.heap.size ≤ k_) ∧ k_ ≠ gb194)) _ _ l0 a1 t195 t196 t197 t198 t201 t204 true _ ?side1 A10.out).mono ?_); (case side1 => exact HO_0.out); rintro e w12 ⟨v199, v202, rfl, ho0, ho1, hb⟩; refine ⟨_, rfl, ?_⟩; have n0_ := Aside0.mk (Kd.V_below (by (with_reducible repeat (first | apply Kd.V_alloc | apply Kd.V_drewN | apply Kd.V_drew)); exact HO_0.out) hb); have n1_ := Aside0.mk (Kd.V_below (by (with_reducible repeat (first | apply Kd.V_alloc | apply Kd.V_drewN | apply Kd.V_drew)); exact HO_195002.out) hb); have n2_ := Aside0.mk (Kd.V_below (by (with_reducible repeat (first | apply Kd.V_alloc | apply Kd.V_drewN | apply Kd.V_drew)); exact HO_195003.out) hb); have n3_ := Aside0.mk (Kd.V_lower (Kd.V_mono (ok' := fun k_ => ((P0_ k_ ∨ P2_2_ k_ ∨ P2_3_ k_) ∨ w.heap.size ≤ k_) ∧ k_ ≠ gb194) ho0 (fun k_ hk_ => ⟨Or.elim hk_ (fun hs_ => hs_.1) (fun hn_ => (.inr (Nat.le_trans (below_size (by repeat (first | (with_reducible first | exact HB.out | apply below_alloc | apply pw_below_drewN | apply below_drew1 | refine below_set ?_ GE194.out) | exact HB.out))) hn_))), Or.elim hk_ (fun hs_ => hs_.2) (fun hn_ => (Kd.freshB (g := gb194) (o := .cells #[.int .i64 a2_0, .string a2_1, .slice A2_2 l2_2.length c2_2, .slice A2_3 l2_3.length c2_3] 25 (0, 0)) (by (with_reducible repeat (first | refine blk_drewN ?_ _ | refine blk_drew ?_ | refine blk_alloc ?_ _)); exact BK194.out) k_ hn_))⟩)) (below_size (by repeat (first | (with_reducible first | exact HB.out | apply below_alloc | apply pw_below_drewN | apply below_drew1 | refine below_set ?_ GE194.out) | exact HB.out)))); have n4_ := Aside0.mk (Kd.V_lower (Kd.V_mono (ok' := fun k_ => ((P0_ k_ ∨ P2_2_ k_ ∨ P2_3_ k_) ∨ w.heap.size ≤ k_) ∧ k_ ≠ gb194) ho1 (fun k_ hk_ => ⟨Or.elim hk_ (fun hs_ => hs_.1) (fun hn_ => (.inr (Nat.le_trans (below_size (by repeat (first | (with_reducible first | exact HB.out | apply below_alloc | apply pw_below_drewN | apply below_drew1 | refine below_set ?_ GE194.out) | exact HB.out))) hn_))), Or.elim hk_ (fun hs_ => hs_.2) (fun hn_ => (Kd.freshB (g := gb194) (o := .cells #[.int .i64 a2_0, .string a2_1, .slice A2_2 l2_2.length c2_2, .slice A2_3 l2_3.length c2_3] 25 (0, 0)) (by (with_reducible repeat (first | refine blk_drewN ?_ _ | refine blk_drew ?_ | refine blk_alloc ?_ _)); exact BK194.out) k_ hn_))⟩)) (below_size (by repeat (first | (with_reducible first | exact HB.out | apply below_alloc | apply pw_below_drewN | apply below_drew1 | refine below_set ?_ GE194.out) | exact HB.out)))); have n5_ := Aside0.mk (blk_below (g := gb194) (o := .cells #[.int .i64 a2_0, .string a2_1, .slice A2_2 l2_2.length c2_2, .slice A2_3 l2_3.length c2_3] 25 (0, 0)) (by (with_reducible repeat (first | refine blk_drewN ?_ _ | refine blk_drew ?_ | refine blk_alloc ?_ _)); exact BK194.out) hb); have n6_ := Aside0.mk (below_step (by repeat (first | (with_reducible first | exact HB.out | apply below_alloc | apply pw_below_drewN | apply below_drew1 | refine below_set ?_ GE194.out) | exact HB.out)) hb); clear HO_0; clear HO_195002; clear HO_195003; clear BK194; clear HB; have HO_0 := n0_; have HO_195002 := n1_; have HO_195003 := n2_; have HO200 := n3_; have HO203 := n4_; have BK194 := n5_; have HB := n6_; clear n0_ n1_ n2_ n3_ n4_ n5_ n6_; (try clear hb); (try clear hb2); (try clear hk); (try clear hi); (try clear ho0); (try clear ho1)) | ((with_reducible refine gate_dst (N := 12) rfl ?_); refine box_event ?hg (N := 12) ?hd (cs := #[.int .i64 0, .int .i64 0, .string (⟨#[]⟩ : ByteArray), .slice none 0 0, .slice none 0 0, .int .i64 0]) (t := 27) ?hr ?_; (case hd => rfl); (case hg => rfl); (case hr => first | (go_simp; done) | (go_simp; rfl)); intro gb206 hg w13 hbox hb; have n0_ := Aside0.mk (Kd.V_below (Kd.V_elderB (by (with_reducible repeat (first | apply Kd.V_alloc | apply Kd.V_drewN | apply Kd.V_drew)); exact HO_0.out) gb206 (Nat.le_of_eq hg.symm)) hb); have n1_ := Aside0.mk (Kd.V_below (Kd.V_elderB (by (with_reducible repeat (first | apply Kd.V_alloc | apply Kd.V_drewN | apply Kd.V_drew)); exact HO_195002.out) gb206 (Nat.le_of_eq hg.symm)) hb); have n2_ := Aside0.mk (Kd.V_below (Kd.V_elderB (by (with_reducible repeat (first | apply Kd.V_alloc | apply Kd.V_drewN | apply Kd.V_drew)); exact HO_195003.out) gb206 (Nat.le_of_eq hg.symm)) hb); have n3_ := Aside0.mk (Kd.V_below (Kd.V_elderB (by (with_reducible repeat (first | apply Kd.V_alloc | apply Kd.V_drewN | apply Kd.V_drew)); exact HO200.out) gb206 (Nat.le_of_eq hg.symm)) hb); have n4_ := Aside0.mk (Kd.V_below (Kd.V_elderB (by (with_reducible repeat (first | apply Kd.V_alloc | apply Kd.V_drewN | apply Kd.V_drew)); exact HO203.out) gb206 (Nat.le_of_eq hg.symm)) hb); have n5_ := Aside0.mk (blk_below (g := gb194) (o := .cells #[.int .i64 a2_0, .string a2_1, .slice A2_2 l2_2.length c2_2, .slice A2_3 l2_3.length c2_3] 25 (0, 0)) (by (with_reducible repeat (first | refine blk_drewN ?_ _ | refine blk_drew ?_ | refine blk_alloc ?_ _)); exact BK194.out) hb); have n6_ := Aside0.mk (below_step (by repeat (first | (with_reducible first | exact HB.out | apply below_alloc | apply pw_below_drewN | apply below_drew1 | refine below_set ?_ GE194.out) | exact HB.out)) hb); have n7_ := Aside0.mk (hbox); have n8_ := Aside0.mk ((by rw [hg]; exact (below_size (by repeat (first | (with_reducible first | exact HB.out | apply below_alloc | apply pw_below_drewN | apply below_drew1 | refine below_set ?_ GE194.out) | exact HB.out))) : w.heap.size ≤ gb206)); have n9_ := Aside0.mk ((by rw [hg]; exact (below_size (by repeat (first | (with_reducible first | exact HB.out | apply below_alloc | apply pw_below_drewN | apply below_drew1 | refine below_set ?_ GE194.out) | exact HB.out))) : w.heap.size ≤ gb206)); have n10_ := Aside0.mk ((by rw [hg]; exact Nat.ne_of_lt (blk_lt (g := gb194) (o := .cells #[.int .i64 a2_0, .string a2_1, .slice A2_2 l2_2.length c2_2, .slice A2_3 l2_3.length c2_3] 25 (0, 0)) (by (with_reducible repeat (first | refine blk_drewN ?_ _ | refine blk_drew ?_ | refine blk_alloc ?_ _)); exact BK194.out)) : gb194 ≠ gb206)); have n11_ := Aside0.mk ((by rw [hg]; exact Nat.ne_of_gt (blk_lt (g := gb194) (o := .cells #[.int .i64 a2_0, .string a2_1, .slice A2_2 l2_2.length c2_2, .slice A2_3 l2_3.length c2_3] 25 (0, 0)) (by (with_reducible repeat (first | refine blk_drewN ?_ _ | refine blk_drew ?_ | refine blk_alloc ?_ _)); exact BK194.out)) : gb206 ≠ gb194)); clear HO_0; clear HO_195002; clear HO_195003; clear HO200; clear HO203; clear BK194; clear HB; have HO_0 := n0_; have HO_195002 := n1_; have HO_195003 := n2_; have HO200 := n3_; have HO203 := n4_; have BK194 := n5_; have HB := n6_; have BK206 := n7_; have GW206 := n8_; have GE206 := n9_; have NB194_206 := n10_; have NB206_194 := n11_; clear n0_ n1_ n2_ n3_ n4_ n5_ n6_ n7_ n8_ n9_ n10_ n11_; clear hb hbox hg; have hnb14 := NB206_194.out; have hnc14 := NB194_206.out; have hcz15_0 : w13.cell? ⟨gb206, 0, none⟩ = some (.int .i64 0) := (blk_cell BK206.out 0).trans rfl; have hcz15_1 : w13.cell? ⟨gb206, 1, none⟩ = some (.int .i64 0) := (blk_cell BK206.out 1).trans rfl; have hcz15_2 : w13.cell? ⟨gb206, 2, none⟩ = some (.string (⟨#[]⟩ : ByteArray)) := (blk_cell BK206.out 2).trans rfl; have hcz15_3 : w13.cell? ⟨gb206, 3, none⟩ = some (.slice none 0 0) := (blk_cell BK206.out 3).trans rfl; have hcz15_4 : w13.cell? ⟨gb206, 4, none⟩ = some (.slice none 0 0) := (blk_cell BK206.out 4).trans rfl; have hcz15_5 : w13.cell? ⟨gb206, 5, none⟩ = some (.int .i64 0) := (blk_cell BK206.out 5).trans rfl; have hfz15_0 := blk_frozen BK206.out 0; have hfz15_1 := blk_frozen BK206.out 1; have hfz15_2 := blk_frozen BK206.out 2; have hfz15_3 := blk_frozen BK206.out 3; have hfz15_4 := blk_frozen BK206.out 4; have hfz15_5 := blk_frozen BK206.out 5; obtain ⟨Ao16, co16, eo16⟩ := Kd.V_slice HO200.out; subst eo16; obtain ⟨Ao17, co17, eo17⟩ := Kd.V_slice HO203.out; subst eo17))
          go_ret2
          exact ⟨_, by first | rfl | (simp [errW_none, errW_some] <;> rfl) | (simp [*, errW_none, errW_some] <;> rfl), by first | exact Kd.R_nil _ _ _ _ _ | exact Kd.N_nil _ _ _ _ _ | exact Kd.V_nil _ _ _ _ _ | exact Kd.Q_nil _ _ _ _ _ | exact Kd.S_nil _ _ _ _ _, by repeat (first | (with_reducible first | exact HB.out | apply below_alloc | apply pw_below_drewN | apply below_drew1 | refine below_set ?_ GE194.out | refine below_set ?_ GE206.out) | exact HB.out)⟩
        · replace c11 := Bool.eq_false_iff.mpr c11
          subst c11
          have H1 : (if (l0.length : Int) ≥ a4 then (some (([] : List (S27)), 42)) else ((some (([] : List (S27)) : List (S27))).bind fun y207 => (if y207.length + l0.length < 1599289640401 then ((some (y207 ++ l0 : List (S27))).bind fun y210 => ((some (([(⟨a1, (⟨a2_0, a2_1, l2_2, l2_3⟩ : S25), a3⟩ : S27)] : List (S27)) : List (S27))).bind fun y213 => (if y210.length + y213.length < 1599289640401 then (some ((y210 ++ y213), 0)) else (none)))) else (none)))) = some (r1, r2) := by rw [if_neg (show ¬ (false = true) by decide)] at H; exact H
          clear H
          have H := H1
          clear H1
          by_cases c18 : (l0.length : Int) ≥ a4
          · rw [if_pos c18] at H
            have c18b0 : decide (a4 ≤ (l0.length : Int)) = true := decide_eq_true c18
            clear c18
            simp only [Option.some.injEq, Prod.mk.injEq] at H
            obtain ⟨rfl, rfl⟩ := H
            go_wp2_with (first | ((with_reducible refine gate_callee (f := 17) rfl ?_); refine goesL_ (some 23) rfl rfl Tryd.func17 (by kernel_rfl) rfl #[.slice A0 l0.length c0, .int .i64 a1] rfl (by (try simp only [List.map_toArray, List.map_cons, List.map_nil]); first | done | rfl | (simp only [List.length_drop, List.length_take]; rfl)) ?_; (with_reducible refine (switchyardref19_Find.calls kj5 (fun k_ => (((P0_ k_ ∨ P2_2_ k_ ∨ P2_3_ k_) ∨ w.heap.size ≤ k_) ∧ k_ ≠ gb194)) _ _ l0 a1 t195 t196 t197 t198 t201 t204 false _ ?side1 A10.out).mono ?_); (case side1 => exact HO_0.out); rintro e w19 ⟨v199, v202, rfl, ho0, ho1, hb⟩; refine ⟨_, rfl, ?_⟩; have n0_ := Aside0.mk (Kd.V_below (by (with_reducible repeat (first | apply Kd.V_alloc | apply Kd.V_drewN | apply Kd.V_drew)); exact HO_0.out) hb); have n1_ := Aside0.mk (Kd.V_below (by (with_reducible repeat (first | apply Kd.V_alloc | apply Kd.V_drewN | apply Kd.V_drew)); exact HO_195002.out) hb); have n2_ := Aside0.mk (Kd.V_below (by (with_reducible repeat (first | apply Kd.V_alloc | apply Kd.V_drewN | apply Kd.V_drew)); exact HO_195003.out) hb); have n3_ := Aside0.mk (Kd.V_lower (Kd.V_mono (ok' := fun k_ => ((P0_ k_ ∨ P2_2_ k_ ∨ P2_3_ k_) ∨ w.heap.size ≤ k_) ∧ k_ ≠ gb194) ho0 (fun k_ hk_ => ⟨Or.elim hk_ (fun hs_ => hs_.1) (fun hn_ => (.inr (Nat.le_trans (below_size (by repeat (first | (with_reducible first | exact HB.out | apply below_alloc | apply pw_below_drewN | apply below_drew1 | refine below_set ?_ GE194.out) | exact HB.out))) hn_))), Or.elim hk_ (fun hs_ => hs_.2) (fun hn_ => (Kd.freshB (g := gb194) (o := .cells #[.int .i64 a2_0, .string a2_1, .slice A2_2 l2_2.length c2_2, .slice A2_3 l2_3.length c2_3] 25 (0, 0)) (by (with_reducible repeat (first | refine blk_drewN ?_ _ | refine blk_drew ?_ | refine blk_alloc ?_ _)); exact BK194.out) k_ hn_))⟩)) (below_size (by repeat (first | (with_reducible first | exact HB.out | apply below_alloc | apply pw_below_drewN | apply below_drew1 | refine below_set ?_ GE194.out) | exact HB.out)))); have n4_ := Aside0.mk (Kd.V_lower (Kd.V_mono (ok' := fun k_ => ((P0_ k_ ∨ P2_2_ k_ ∨ P2_3_ k_) ∨ w.heap.size ≤ k_) ∧ k_ ≠ gb194) ho1 (fun k_ hk_ => ⟨Or.elim hk_ (fun hs_ => hs_.1) (fun hn_ => (.inr (Nat.le_trans (below_size (by repeat (first | (with_reducible first | exact HB.out | apply below_alloc | apply pw_below_drewN | apply below_drew1 | refine below_set ?_ GE194.out) | exact HB.out))) hn_))), Or.elim hk_ (fun hs_ => hs_.2) (fun hn_ => (Kd.freshB (g := gb194) (o := .cells #[.int .i64 a2_0, .string a2_1, .slice A2_2 l2_2.length c2_2, .slice A2_3 l2_3.length c2_3] 25 (0, 0)) (by (with_reducible repeat (first | refine blk_drewN ?_ _ | refine blk_drew ?_ | refine blk_alloc ?_ _)); exact BK194.out) k_ hn_))⟩)) (below_size (by repeat (first | (with_reducible first | exact HB.out | apply below_alloc | apply pw_below_drewN | apply below_drew1 | refine below_set ?_ GE194.out) | exact HB.out)))); have n5_ := Aside0.mk (blk_below (g := gb194) (o := .cells #[.int .i64 a2_0, .string a2_1, .slice A2_2 l2_2.length c2_2, .slice A2_3 l2_3.length c2_3] 25 (0, 0)) (by (with_reducible repeat (first | refine blk_drewN ?_ _ | refine blk_drew ?_ | refine blk_alloc ?_ _)); exact BK194.out) hb); have n6_ := Aside0.mk (below_step (by repeat (first | (with_reducible first | exact HB.out | apply below_alloc | apply pw_below_drewN | apply below_drew1 | refine below_set ?_ GE194.out) | exact HB.out)) hb); clear HO_0; clear HO_195002; clear HO_195003; clear BK194; clear HB; have HO_0 := n0_; have HO_195002 := n1_; have HO_195003 := n2_; have HO200 := n3_; have HO203 := n4_; have BK194 := n5_; have HB := n6_; clear n0_ n1_ n2_ n3_ n4_ n5_ n6_; (try clear hb); (try clear hb2); (try clear hk); (try clear hi); (try clear ho0); (try clear ho1)) | ((with_reducible refine gate_dst (N := 12) rfl ?_); refine box_event ?hg (N := 12) ?hd (cs := #[.int .i64 0, .int .i64 0, .string (⟨#[]⟩ : ByteArray), .slice none 0 0, .slice none 0 0, .int .i64 0]) (t := 27) ?hr ?_; (case hd => rfl); (case hg => rfl); (case hr => first | (go_simp; done) | (go_simp; rfl)); intro gb206 hg w20 hbox hb; have n0_ := Aside0.mk (Kd.V_below (Kd.V_elderB (by (with_reducible repeat (first | apply Kd.V_alloc | apply Kd.V_drewN | apply Kd.V_drew)); exact HO_0.out) gb206 (Nat.le_of_eq hg.symm)) hb); have n1_ := Aside0.mk (Kd.V_below (Kd.V_elderB (by (with_reducible repeat (first | apply Kd.V_alloc | apply Kd.V_drewN | apply Kd.V_drew)); exact HO_195002.out) gb206 (Nat.le_of_eq hg.symm)) hb); have n2_ := Aside0.mk (Kd.V_below (Kd.V_elderB (by (with_reducible repeat (first | apply Kd.V_alloc | apply Kd.V_drewN | apply Kd.V_drew)); exact HO_195003.out) gb206 (Nat.le_of_eq hg.symm)) hb); have n3_ := Aside0.mk (Kd.V_below (Kd.V_elderB (by (with_reducible repeat (first | apply Kd.V_alloc | apply Kd.V_drewN | apply Kd.V_drew)); exact HO200.out) gb206 (Nat.le_of_eq hg.symm)) hb); have n4_ := Aside0.mk (Kd.V_below (Kd.V_elderB (by (with_reducible repeat (first | apply Kd.V_alloc | apply Kd.V_drewN | apply Kd.V_drew)); exact HO203.out) gb206 (Nat.le_of_eq hg.symm)) hb); have n5_ := Aside0.mk (blk_below (g := gb194) (o := .cells #[.int .i64 a2_0, .string a2_1, .slice A2_2 l2_2.length c2_2, .slice A2_3 l2_3.length c2_3] 25 (0, 0)) (by (with_reducible repeat (first | refine blk_drewN ?_ _ | refine blk_drew ?_ | refine blk_alloc ?_ _)); exact BK194.out) hb); have n6_ := Aside0.mk (below_step (by repeat (first | (with_reducible first | exact HB.out | apply below_alloc | apply pw_below_drewN | apply below_drew1 | refine below_set ?_ GE194.out) | exact HB.out)) hb); have n7_ := Aside0.mk (hbox); have n8_ := Aside0.mk ((by rw [hg]; exact (below_size (by repeat (first | (with_reducible first | exact HB.out | apply below_alloc | apply pw_below_drewN | apply below_drew1 | refine below_set ?_ GE194.out) | exact HB.out))) : w.heap.size ≤ gb206)); have n9_ := Aside0.mk ((by rw [hg]; exact (below_size (by repeat (first | (with_reducible first | exact HB.out | apply below_alloc | apply pw_below_drewN | apply below_drew1 | refine below_set ?_ GE194.out) | exact HB.out))) : w.heap.size ≤ gb206)); have n10_ := Aside0.mk ((by rw [hg]; exact Nat.ne_of_lt (blk_lt (g := gb194) (o := .cells #[.int .i64 a2_0, .string a2_1, .slice A2_2 l2_2.length c2_2, .slice A2_3 l2_3.length c2_3] 25 (0, 0)) (by (with_reducible repeat (first | refine blk_drewN ?_ _ | refine blk_drew ?_ | refine blk_alloc ?_ _)); exact BK194.out)) : gb194 ≠ gb206)); have n11_ := Aside0.mk ((by rw [hg]; exact Nat.ne_of_gt (blk_lt (g := gb194) (o := .cells #[.int .i64 a2_0, .string a2_1, .slice A2_2 l2_2.length c2_2, .slice A2_3 l2_3.length c2_3] 25 (0, 0)) (by (with_reducible repeat (first | refine blk_drewN ?_ _ | refine blk_drew ?_ | refine blk_alloc ?_ _)); exact BK194.out)) : gb206 ≠ gb194)); clear HO_0; clear HO_195002; clear HO_195003; clear HO200; clear HO203; clear BK194; clear HB; have HO_0 := n0_; have HO_195002 := n1_; have HO_195003 := n2_; have HO200 := n3_; have HO203 := n4_; have BK194 := n5_; have HB := n6_; have BK206 := n7_; have GW206 := n8_; have GE206 := n9_; have NB194_206 := n10_; have NB206_194 := n11_; clear n0_ n1_ n2_ n3_ n4_ n5_ n6_ n7_ n8_ n9_ n10_ n11_; clear hb hbox hg; have hnb21 := NB206_194.out; have hnc21 := NB194_206.out; have hcz22_0 : w20.cell? ⟨gb206, 0, none⟩ = some (.int .i64 0) := (blk_cell BK206.out 0).trans rfl; have hcz22_1 : w20.cell? ⟨gb206, 1, none⟩ = some (.int .i64 0) := (blk_cell BK206.out 1).trans rfl; have hcz22_2 : w20.cell? ⟨gb206, 2, none⟩ = some (.string (⟨#[]⟩ : ByteArray)) := (blk_cell BK206.out 2).trans rfl; have hcz22_3 : w20.cell? ⟨gb206, 3, none⟩ = some (.slice none 0 0) := (blk_cell BK206.out 3).trans rfl; have hcz22_4 : w20.cell? ⟨gb206, 4, none⟩ = some (.slice none 0 0) := (blk_cell BK206.out 4).trans rfl; have hcz22_5 : w20.cell? ⟨gb206, 5, none⟩ = some (.int .i64 0) := (blk_cell BK206.out 5).trans rfl; have hfz22_0 := blk_frozen BK206.out 0; have hfz22_1 := blk_frozen BK206.out 1; have hfz22_2 := blk_frozen BK206.out 2; have hfz22_3 := blk_frozen BK206.out 3; have hfz22_4 := blk_frozen BK206.out 4; have hfz22_5 := blk_frozen BK206.out 5; obtain ⟨Ao23, co23, eo23⟩ := Kd.V_slice HO200.out; subst eo23; obtain ⟨Ao24, co24, eo24⟩ := Kd.V_slice HO203.out; subst eo24))
            go_ret2
            exact ⟨_, by first | rfl | (simp [errW_none, errW_some] <;> rfl) | (simp [*, errW_none, errW_some] <;> rfl), by first | exact Kd.R_nil _ _ _ _ _ | exact Kd.N_nil _ _ _ _ _ | exact Kd.V_nil _ _ _ _ _ | exact Kd.Q_nil _ _ _ _ _ | exact Kd.S_nil _ _ _ _ _, by repeat (first | (with_reducible first | exact HB.out | apply below_alloc | apply pw_below_drewN | apply below_drew1 | refine below_set ?_ GE194.out | refine below_set ?_ GE206.out) | exact HB.out)⟩
          · rw [if_neg c18] at H
            have c18b0 : decide (a4 ≤ (l0.length : Int)) = false := decide_eq_false c18
            clear c18
            obtain ⟨y207, hy207⟩ : ∃ y_ : List (S27), y_ = (([] : List (S27))) := ⟨_, rfl⟩
            replace H : (if y207.length + l0.length < 1599289640401 then ((some (y207 ++ l0 : List (S27))).bind fun y210 => ((some (([(⟨a1, (⟨a2_0, a2_1, l2_2, l2_3⟩ : S25), a3⟩ : S27)] : List (S27)) : List (S27))).bind fun y213 => (if y210.length + y213.length < 1599289640401 then (some ((y210 ++ y213), 0)) else (none)))) else (none)) = some (r1, r2) := by first | (rw [hy207]; with_reducible exact H) | (have H2_ := (Option.bind_some _ _).symm.trans H; rw [hy207]; with_reducible exact H2_) | (have H2_ := (Option.bind_some _ _).symm.trans H; with_reducible exact H2_) | with_reducible exact H | (rw [hy207]; exact H) | exact H
            have Ny207 := Aside0.mk hy207
            clear hy207
            by_cases c25 : y207.length + l0.length < 1599289640401
            · rw [if_pos c25] at H
              have LMc25 := Aside0.mk c25
              clear c25
              obtain ⟨y210, hy210⟩ : ∃ y_ : List (S27), y_ = (y207 ++ l0) := ⟨_, rfl⟩
              replace H : ((some (([(⟨a1, (⟨a2_0, a2_1, l2_2, l2_3⟩ : S25), a3⟩ : S27)] : List (S27)) : List (S27))).bind fun y213 => (if y210.length + y213.length < 1599289640401 then (some ((y210 ++ y213), 0)) else (none))) = some (r1, r2) := by first | (rw [hy210]; with_reducible exact H) | (have H2_ := (Option.bind_some _ _).symm.trans H; rw [hy210]; with_reducible exact H2_) | (have H2_ := (Option.bind_some _ _).symm.trans H; with_reducible exact H2_) | with_reducible exact H | (rw [hy210]; exact H) | exact H
              have Ny210 := Aside0.mk hy210
              clear hy210
              obtain ⟨y213, hy213⟩ : ∃ y_ : List (S27), y_ = (([(⟨a1, (⟨a2_0, a2_1, l2_2, l2_3⟩ : S25), a3⟩ : S27)] : List (S27))) := ⟨_, rfl⟩
              replace H : (if y210.length + y213.length < 1599289640401 then (some ((y210 ++ y213), 0)) else (none)) = some (r1, r2) := by first | (rw [hy213]; with_reducible exact H) | (have H2_ := (Option.bind_some _ _).symm.trans H; rw [hy213]; with_reducible exact H2_) | (have H2_ := (Option.bind_some _ _).symm.trans H; with_reducible exact H2_) | with_reducible exact H | (rw [hy213]; exact H) | exact H
              have Ny213 := Aside0.mk hy213
              clear hy213
              by_cases c26 : y210.length + y213.length < 1599289640401
              · rw [if_pos c26] at H
                have LMc26 := Aside0.mk c26
                clear c26
                obtain ⟨y216, hy216⟩ : ∃ y_ : List (S27), y_ = (y210 ++ y213) := ⟨_, rfl⟩
                replace H : (some (y216, 0)) = some (r1, r2) := by first | (rw [hy216]; with_reducible exact H) | (have H2_ := (Option.bind_some _ _).symm.trans H; rw [hy216]; with_reducible exact H2_) | (have H2_ := (Option.bind_some _ _).symm.trans H; with_reducible exact H2_) | with_reducible exact H | (rw [hy216]; exact H) | exact H
                have Ny216 := Aside0.mk hy216
                clear hy216
                simp only [Option.some.injEq, Prod.mk.injEq] at H
                obtain ⟨rfl, rfl⟩ := H
                try go_wp2_with (first | ((with_reducible refine gate_callee (f := 17) rfl ?_); refine goesL_ (some 23) rfl rfl Tryd.func17 (by kernel_rfl) rfl #[.slice A0 l0.length c0, .int .i64 a1] rfl (by (try simp only [List.map_toArray, List.map_cons, List.map_nil]); first | done | rfl | (simp only [List.length_drop, List.length_take]; rfl)) ?_; (with_reducible refine (switchyardref19_Find.calls kj5 (fun k_ => (((P0_ k_ ∨ P2_2_ k_ ∨ P2_3_ k_) ∨ w.heap.size ≤ k_) ∧ k_ ≠ gb194)) _ _ l0 a1 t195 t196 t197 t198 t201 t204 false _ ?side1 A10.out).mono ?_); (case side1 => exact HO_0.out); rintro e w27 ⟨v199, v202, rfl, ho0, ho1, hb⟩; refine ⟨_, rfl, ?_⟩; have n0_ := Aside0.mk (Kd.V_below (by (with_reducible repeat (first | apply Kd.V_alloc | apply Kd.V_drewN | apply Kd.V_drew)); exact HO_0.out) hb); have n1_ := Aside0.mk (Kd.V_below (by (with_reducible repeat (first | apply Kd.V_alloc | apply Kd.V_drewN | apply Kd.V_drew)); exact HO_195002.out) hb); have n2_ := Aside0.mk (Kd.V_below (by (with_reducible repeat (first | apply Kd.V_alloc | apply Kd.V_drewN | apply Kd.V_drew)); exact HO_195003.out) hb); have n3_ := Aside0.mk (Kd.V_lower (Kd.V_mono (ok' := fun k_ => ((P0_ k_ ∨ P2_2_ k_ ∨ P2_3_ k_) ∨ w.heap.size ≤ k_) ∧ k_ ≠ gb194) ho0 (fun k_ hk_ => ⟨Or.elim hk_ (fun hs_ => hs_.1) (fun hn_ => (.inr (Nat.le_trans (below_size (by repeat (first | (with_reducible first | exact HB.out | apply below_alloc | apply pw_below_drewN | apply below_drew1 | refine below_set ?_ GE194.out) | exact HB.out))) hn_))), Or.elim hk_ (fun hs_ => hs_.2) (fun hn_ => (Kd.freshB (g := gb194) (o := .cells #[.int .i64 a2_0, .string a2_1, .slice A2_2 l2_2.length c2_2, .slice A2_3 l2_3.length c2_3] 25 (0, 0)) (by (with_reducible repeat (first | refine blk_drewN ?_ _ | refine blk_drew ?_ | refine blk_alloc ?_ _)); exact BK194.out) k_ hn_))⟩)) (below_size (by repeat (first | (with_reducible first | exact HB.out | apply below_alloc | apply pw_below_drewN | apply below_drew1 | refine below_set ?_ GE194.out) | exact HB.out)))); have n4_ := Aside0.mk (Kd.V_lower (Kd.V_mono (ok' := fun k_ => ((P0_ k_ ∨ P2_2_ k_ ∨ P2_3_ k_) ∨ w.heap.size ≤ k_) ∧ k_ ≠ gb194) ho1 (fun k_ hk_ => ⟨Or.elim hk_ (fun hs_ => hs_.1) (fun hn_ => (.inr (Nat.le_trans (below_size (by repeat (first | (with_reducible first | exact HB.out | apply below_alloc | apply pw_below_drewN | apply below_drew1 | refine below_set ?_ GE194.out) | exact HB.out))) hn_))), Or.elim hk_ (fun hs_ => hs_.2) (fun hn_ => (Kd.freshB (g := gb194) (o := .cells #[.int .i64 a2_0, .string a2_1, .slice A2_2 l2_2.length c2_2, .slice A2_3 l2_3.length c2_3] 25 (0, 0)) (by (with_reducible repeat (first | refine blk_drewN ?_ _ | refine blk_drew ?_ | refine blk_alloc ?_ _)); exact BK194.out) k_ hn_))⟩)) (below_size (by repeat (first | (with_reducible first | exact HB.out | apply below_alloc | apply pw_below_drewN | apply below_drew1 | refine below_set ?_ GE194.out) | exact HB.out)))); have n5_ := Aside0.mk (blk_below (g := gb194) (o := .cells #[.int .i64 a2_0, .string a2_1, .slice A2_2 l2_2.length c2_2, .slice A2_3 l2_3.length c2_3] 25 (0, 0)) (by (with_reducible repeat (first | refine blk_drewN ?_ _ | refine blk_drew ?_ | refine blk_alloc ?_ _)); exact BK194.out) hb); have n6_ := Aside0.mk (below_step (by repeat (first | (with_reducible first | exact HB.out | apply below_alloc | apply pw_below_drewN | apply below_drew1 | refine below_set ?_ GE194.out) | exact HB.out)) hb); clear HO_0; clear HO_195002; clear HO_195003; clear BK194; clear HB; have HO_0 := n0_; have HO_195002 := n1_; have HO_195003 := n2_; have HO200 := n3_; have HO203 := n4_; have BK194 := n5_; have HB := n6_; clear n0_ n1_ n2_ n3_ n4_ n5_ n6_; (try clear hb); (try clear hb2); (try clear hk); (try clear hi); (try clear ho0); (try clear ho1)) | ((with_reducible refine gate_dst (N := 12) rfl ?_); refine box_event ?hg (N := 12) ?hd (cs := #[.int .i64 0, .int .i64 0, .string (⟨#[]⟩ : ByteArray), .slice none 0 0, .slice none 0 0, .int .i64 0]) (t := 27) ?hr ?_; (case hd => rfl); (case hg => rfl); (case hr => first | (go_simp; done) | (go_simp; rfl)); intro gb206 hg w28 hbox hb; have n0_ := Aside0.mk (Kd.V_below (Kd.V_elderB (by (with_reducible repeat (first | apply Kd.V_alloc | apply Kd.V_drewN | apply Kd.V_drew)); exact HO_0.out) gb206 (Nat.le_of_eq hg.symm)) hb); have n1_ := Aside0.mk (Kd.V_below (Kd.V_elderB (by (with_reducible repeat (first | apply Kd.V_alloc | apply Kd.V_drewN | apply Kd.V_drew)); exact HO_195002.out) gb206 (Nat.le_of_eq hg.symm)) hb); have n2_ := Aside0.mk (Kd.V_below (Kd.V_elderB (by (with_reducible repeat (first | apply Kd.V_alloc | apply Kd.V_drewN | apply Kd.V_drew)); exact HO_195003.out) gb206 (Nat.le_of_eq hg.symm)) hb); have n3_ := Aside0.mk (Kd.V_below (Kd.V_elderB (by (with_reducible repeat (first | apply Kd.V_alloc | apply Kd.V_drewN | apply Kd.V_drew)); exact HO200.out) gb206 (Nat.le_of_eq hg.symm)) hb); have n4_ := Aside0.mk (Kd.V_below (Kd.V_elderB (by (with_reducible repeat (first | apply Kd.V_alloc | apply Kd.V_drewN | apply Kd.V_drew)); exact HO203.out) gb206 (Nat.le_of_eq hg.symm)) hb); have n5_ := Aside0.mk (blk_below (g := gb194) (o := .cells #[.int .i64 a2_0, .string a2_1, .slice A2_2 l2_2.length c2_2, .slice A2_3 l2_3.length c2_3] 25 (0, 0)) (by (with_reducible repeat (first | refine blk_drewN ?_ _ | refine blk_drew ?_ | refine blk_alloc ?_ _)); exact BK194.out) hb); have n6_ := Aside0.mk (below_step (by repeat (first | (with_reducible first | exact HB.out | apply below_alloc | apply pw_below_drewN | apply below_drew1 | refine below_set ?_ GE194.out) | exact HB.out)) hb); have n7_ := Aside0.mk (hbox); have n8_ := Aside0.mk ((by rw [hg]; exact (below_size (by repeat (first | (with_reducible first | exact HB.out | apply below_alloc | apply pw_below_drewN | apply below_drew1 | refine below_set ?_ GE194.out) | exact HB.out))) : w.heap.size ≤ gb206)); have n9_ := Aside0.mk ((by rw [hg]; exact (below_size (by repeat (first | (with_reducible first | exact HB.out | apply below_alloc | apply pw_below_drewN | apply below_drew1 | refine below_set ?_ GE194.out) | exact HB.out))) : w.heap.size ≤ gb206)); have n10_ := Aside0.mk ((by rw [hg]; exact Nat.ne_of_lt (blk_lt (g := gb194) (o := .cells #[.int .i64 a2_0, .string a2_1, .slice A2_2 l2_2.length c2_2, .slice A2_3 l2_3.length c2_3] 25 (0, 0)) (by (with_reducible repeat (first | refine blk_drewN ?_ _ | refine blk_drew ?_ | refine blk_alloc ?_ _)); exact BK194.out)) : gb194 ≠ gb206)); have n11_ := Aside0.mk ((by rw [hg]; exact Nat.ne_of_gt (blk_lt (g := gb194) (o := .cells #[.int .i64 a2_0, .string a2_1, .slice A2_2 l2_2.length c2_2, .slice A2_3 l2_3.length c2_3] 25 (0, 0)) (by (with_reducible repeat (first | refine blk_drewN ?_ _ | refine blk_drew ?_ | refine blk_alloc ?_ _)); exact BK194.out)) : gb206 ≠ gb194)); clear HO_0; clear HO_195002; clear HO_195003; clear HO200; clear HO203; clear BK194; clear HB; have HO_0 := n0_; have HO_195002 := n1_; have HO_195003 := n2_; have HO200 := n3_; have HO203 := n4_; have BK194 := n5_; have HB := n6_; have BK206 := n7_; have GW206 := n8_; have GE206 := n9_; have NB194_206 := n10_; have NB206_194 := n11_; clear n0_ n1_ n2_ n3_ n4_ n5_ n6_ n7_ n8_ n9_ n10_ n11_; clear hb hbox hg; have hnb29 := NB206_194.out; have hnc29 := NB194_206.out; have hcz30_0 : w28.cell? ⟨gb206, 0, none⟩ = some (.int .i64 0) := (blk_cell BK206.out 0).trans rfl; have hcz30_1 : w28.cell? ⟨gb206, 1, none⟩ = some (.int .i64 0) := (blk_cell BK206.out 1).trans rfl; have hcz30_2 : w28.cell? ⟨gb206, 2, none⟩ = some (.string (⟨#[]⟩ : ByteArray)) := (blk_cell BK206.out 2).trans rfl; have hcz30_3 : w28.cell? ⟨gb206, 3, none⟩ = some (.slice none 0 0) := (blk_cell BK206.out 3).trans rfl; have hcz30_4 : w28.cell? ⟨gb206, 4, none⟩ = some (.slice none 0 0) := (blk_cell BK206.out 4).trans rfl; have hcz30_5 : w28.cell? ⟨gb206, 5, none⟩ = some (.int .i64 0) := (blk_cell BK206.out 5).trans rfl; have hfz30_0 := blk_frozen BK206.out 0; have hfz30_1 := blk_frozen BK206.out 1; have hfz30_2 := blk_frozen BK206.out 2; have hfz30_3 := blk_frozen BK206.out 3; have hfz30_4 := blk_frozen BK206.out 4; have hfz30_5 := blk_frozen BK206.out 5; obtain ⟨Ao31, co31, eo31⟩ := Kd.V_slice HO200.out; subst eo31; obtain ⟨Ao32, co32, eo32⟩ := Kd.V_slice HO203.out; subst eo32))
                have n0_ : Aside0 (Kd.V k27 27 ((((((w28.setCell ⟨gb206, 0, none⟩ (.int .i64 t195)).setCell ⟨gb206, 1, none⟩ (.int .i64 t196)).setCell ⟨gb206, 2, none⟩ (.string t197)).setCell ⟨gb206, 3, none⟩ (.slice Ao31 t198.length co31)).setCell ⟨gb206, 4, none⟩ (.slice Ao32 t201.length co32)).setCell ⟨gb206, 5, none⟩ (.int .i64 t204)) w.heap.size (fun k_ => ((P0_ k_ ∨ P2_2_ k_ ∨ P2_3_ k_) ∨ w.heap.size ≤ k_) ∧ k_ ≠ gb194 ∧ k_ ≠ gb206) (.slice A0 l0.length c0) l0) := ⟨by (with_reducible repeat (first | apply Kd.V_alloc | apply Kd.V_drewN | apply Kd.V_drew)); exact Kd.V_mono (Kd.V_far (p := ⟨gb206, 5, none⟩) (Kd.V_far (p := ⟨gb206, 4, none⟩) (Kd.V_far (p := ⟨gb206, 3, none⟩) (Kd.V_far (p := ⟨gb206, 2, none⟩) (Kd.V_far (p := ⟨gb206, 1, none⟩) (Kd.V_far (p := ⟨gb206, 0, none⟩) (Kd.V_mono HO_0.out (fun k_ hk => (⟨hk, hk.2⟩ : _ ∧ k_ ≠ gb206))) (fun _ hk => hk.2) (.int .i64 t195)) (fun _ hk => hk.2) (.int .i64 t196)) (fun _ hk => hk.2) (.string t197)) (fun _ hk => hk.2) (.slice Ao31 t198.length co31)) (fun _ hk => hk.2) (.slice Ao32 t201.length co32)) (fun _ hk => hk.2) (.int .i64 t204)) (fun _ hk => ⟨hk.1.1.1, ⟨hk.1.1.2, hk.1.2⟩⟩)⟩
                have n1_ : Aside0 (Kd.V k37 37 ((((((w28.setCell ⟨gb206, 0, none⟩ (.int .i64 t195)).setCell ⟨gb206, 1, none⟩ (.int .i64 t196)).setCell ⟨gb206, 2, none⟩ (.string t197)).setCell ⟨gb206, 3, none⟩ (.slice Ao31 t198.length co31)).setCell ⟨gb206, 4, none⟩ (.slice Ao32 t201.length co32)).setCell ⟨gb206, 5, none⟩ (.int .i64 t204)) w.heap.size (fun k_ => ((P0_ k_ ∨ P2_2_ k_ ∨ P2_3_ k_) ∨ w.heap.size ≤ k_) ∧ k_ ≠ gb194 ∧ k_ ≠ gb206) (.slice A2_2 l2_2.length c2_2) l2_2) := ⟨by (with_reducible repeat (first | apply Kd.V_alloc | apply Kd.V_drewN | apply Kd.V_drew)); exact Kd.V_mono (Kd.V_far (p := ⟨gb206, 5, none⟩) (Kd.V_far (p := ⟨gb206, 4, none⟩) (Kd.V_far (p := ⟨gb206, 3, none⟩) (Kd.V_far (p := ⟨gb206, 2, none⟩) (Kd.V_far (p := ⟨gb206, 1, none⟩) (Kd.V_far (p := ⟨gb206, 0, none⟩) (Kd.V_mono HO_195002.out (fun k_ hk => (⟨hk, hk.2⟩ : _ ∧ k_ ≠ gb206))) (fun _ hk => hk.2) (.int .i64 t195)) (fun _ hk => hk.2) (.int .i64 t196)) (fun _ hk => hk.2) (.string t197)) (fun _ hk => hk.2) (.slice Ao31 t198.length co31)) (fun _ hk => hk.2) (.slice Ao32 t201.length co32)) (fun _ hk => hk.2) (.int .i64 t204)) (fun _ hk => ⟨hk.1.1.1, ⟨hk.1.1.2, hk.1.2⟩⟩)⟩
                have n2_ : Aside0 (Kd.V k37 37 ((((((w28.setCell ⟨gb206, 0, none⟩ (.int .i64 t195)).setCell ⟨gb206, 1, none⟩ (.int .i64 t196)).setCell ⟨gb206, 2, none⟩ (.string t197)).setCell ⟨gb206, 3, none⟩ (.slice Ao31 t198.length co31)).setCell ⟨gb206, 4, none⟩ (.slice Ao32 t201.length co32)).setCell ⟨gb206, 5, none⟩ (.int .i64 t204)) w.heap.size (fun k_ => ((P0_ k_ ∨ P2_2_ k_ ∨ P2_3_ k_) ∨ w.heap.size ≤ k_) ∧ k_ ≠ gb194 ∧ k_ ≠ gb206) (.slice A2_3 l2_3.length c2_3) l2_3) := ⟨by (with_reducible repeat (first | apply Kd.V_alloc | apply Kd.V_drewN | apply Kd.V_drew)); exact Kd.V_mono (Kd.V_far (p := ⟨gb206, 5, none⟩) (Kd.V_far (p := ⟨gb206, 4, none⟩) (Kd.V_far (p := ⟨gb206, 3, none⟩) (Kd.V_far (p := ⟨gb206, 2, none⟩) (Kd.V_far (p := ⟨gb206, 1, none⟩) (Kd.V_far (p := ⟨gb206, 0, none⟩) (Kd.V_mono HO_195003.out (fun k_ hk => (⟨hk, hk.2⟩ : _ ∧ k_ ≠ gb206))) (fun _ hk => hk.2) (.int .i64 t195)) (fun _ hk => hk.2) (.int .i64 t196)) (fun _ hk => hk.2) (.string t197)) (fun _ hk => hk.2) (.slice Ao31 t198.length co31)) (fun _ hk => hk.2) (.slice Ao32 t201.length co32)) (fun _ hk => hk.2) (.int .i64 t204)) (fun _ hk => ⟨hk.1.1.1, ⟨hk.1.1.2, hk.1.2⟩⟩)⟩
                have n3_ : Aside0 (Kd.V k37 37 ((((((w28.setCell ⟨gb206, 0, none⟩ (.int .i64 t195)).setCell ⟨gb206, 1, none⟩ (.int .i64 t196)).setCell ⟨gb206, 2, none⟩ (.string t197)).setCell ⟨gb206, 3, none⟩ (.slice Ao31 t198.length co31)).setCell ⟨gb206, 4, none⟩ (.slice Ao32 t201.length co32)).setCell ⟨gb206, 5, none⟩ (.int .i64 t204)) w.heap.size (fun k_ => ((P0_ k_ ∨ P2_2_ k_ ∨ P2_3_ k_) ∨ w.heap.size ≤ k_) ∧ k_ ≠ gb194 ∧ k_ ≠ gb206) (.slice Ao31 t198.length co31) t198) := ⟨by (with_reducible repeat (first | apply Kd.V_alloc | apply Kd.V_drewN | apply Kd.V_drew)); exact Kd.V_mono (Kd.V_far (p := ⟨gb206, 5, none⟩) (Kd.V_far (p := ⟨gb206, 4, none⟩) (Kd.V_far (p := ⟨gb206, 3, none⟩) (Kd.V_far (p := ⟨gb206, 2, none⟩) (Kd.V_far (p := ⟨gb206, 1, none⟩) (Kd.V_far (p := ⟨gb206, 0, none⟩) (Kd.V_mono HO200.out (fun k_ hk => (⟨hk, hk.2⟩ : _ ∧ k_ ≠ gb206))) (fun _ hk => hk.2) (.int .i64 t195)) (fun _ hk => hk.2) (.int .i64 t196)) (fun _ hk => hk.2) (.string t197)) (fun _ hk => hk.2) (.slice Ao31 t198.length co31)) (fun _ hk => hk.2) (.slice Ao32 t201.length co32)) (fun _ hk => hk.2) (.int .i64 t204)) (fun _ hk => ⟨hk.1.1.1, ⟨hk.1.1.2, hk.1.2⟩⟩)⟩
                have n4_ : Aside0 (Kd.V k37 37 ((((((w28.setCell ⟨gb206, 0, none⟩ (.int .i64 t195)).setCell ⟨gb206, 1, none⟩ (.int .i64 t196)).setCell ⟨gb206, 2, none⟩ (.string t197)).setCell ⟨gb206, 3, none⟩ (.slice Ao31 t198.length co31)).setCell ⟨gb206, 4, none⟩ (.slice Ao32 t201.length co32)).setCell ⟨gb206, 5, none⟩ (.int .i64 t204)) w.heap.size (fun k_ => ((P0_ k_ ∨ P2_2_ k_ ∨ P2_3_ k_) ∨ w.heap.size ≤ k_) ∧ k_ ≠ gb194 ∧ k_ ≠ gb206) (.slice Ao32 t201.length co32) t201) := ⟨by (with_reducible repeat (first | apply Kd.V_alloc | apply Kd.V_drewN | apply Kd.V_drew)); exact Kd.V_mono (Kd.V_far (p := ⟨gb206, 5, none⟩) (Kd.V_far (p := ⟨gb206, 4, none⟩) (Kd.V_far (p := ⟨gb206, 3, none⟩) (Kd.V_far (p := ⟨gb206, 2, none⟩) (Kd.V_far (p := ⟨gb206, 1, none⟩) (Kd.V_far (p := ⟨gb206, 0, none⟩) (Kd.V_mono HO203.out (fun k_ hk => (⟨hk, hk.2⟩ : _ ∧ k_ ≠ gb206))) (fun _ hk => hk.2) (.int .i64 t195)) (fun _ hk => hk.2) (.int .i64 t196)) (fun _ hk => hk.2) (.string t197)) (fun _ hk => hk.2) (.slice Ao31 t198.length co31)) (fun _ hk => hk.2) (.slice Ao32 t201.length co32)) (fun _ hk => hk.2) (.int .i64 t204)) (fun _ hk => ⟨hk.1.1.1, ⟨hk.1.1.2, hk.1.2⟩⟩)⟩
                have n5_ : Aside0 (((((((w28.setCell ⟨gb206, 0, none⟩ (.int .i64 t195)).setCell ⟨gb206, 1, none⟩ (.int .i64 t196)).setCell ⟨gb206, 2, none⟩ (.string t197)).setCell ⟨gb206, 3, none⟩ (.slice Ao31 t198.length co31)).setCell ⟨gb206, 4, none⟩ (.slice Ao32 t201.length co32)).setCell ⟨gb206, 5, none⟩ (.int .i64 t204)).heap[gb194]? = some (.cells #[.int .i64 a2_0, .string a2_1, .slice A2_2 l2_2.length c2_2, .slice A2_3 l2_3.length c2_3] 25 (0, 0))) := ⟨by (with_reducible repeat (first | refine blk_drewN ?_ _ | refine blk_drew ?_ | refine blk_alloc ?_ _)); refine blk_far ?_ NB194_206.out _; (with_reducible repeat (first | refine blk_drewN ?_ _ | refine blk_drew ?_ | refine blk_alloc ?_ _)); refine blk_far ?_ NB194_206.out _; (with_reducible repeat (first | refine blk_drewN ?_ _ | refine blk_drew ?_ | refine blk_alloc ?_ _)); refine blk_far ?_ NB194_206.out _; (with_reducible repeat (first | refine blk_drewN ?_ _ | refine blk_drew ?_ | refine blk_alloc ?_ _)); refine blk_far ?_ NB194_206.out _; (with_reducible repeat (first | refine blk_drewN ?_ _ | refine blk_drew ?_ | refine blk_alloc ?_ _)); refine blk_far ?_ NB194_206.out _; (with_reducible repeat (first | refine blk_drewN ?_ _ | refine blk_drew ?_ | refine blk_alloc ?_ _)); refine blk_far ?_ NB194_206.out _; (with_reducible repeat (first | refine blk_drewN ?_ _ | refine blk_drew ?_ | refine blk_alloc ?_ _)); exact BK194.out⟩
                have n6_ : Aside0 (((((((w28.setCell ⟨gb206, 0, none⟩ (.int .i64 t195)).setCell ⟨gb206, 1, none⟩ (.int .i64 t196)).setCell ⟨gb206, 2, none⟩ (.string t197)).setCell ⟨gb206, 3, none⟩ (.slice Ao31 t198.length co31)).setCell ⟨gb206, 4, none⟩ (.slice Ao32 t201.length co32)).setCell ⟨gb206, 5, none⟩ (.int .i64 t204)).heap[gb206]? = some (.cells #[.int .i64 t195, .int .i64 t196, .string t197, .slice Ao31 t198.length co31, .slice Ao32 t201.length co32, .int .i64 t204] 27 (0, 0))) := ⟨by (with_reducible repeat (first | refine blk_drewN ?_ _ | refine blk_drew ?_ | refine blk_alloc ?_ _)); refine blk_put (cs := #[.int .i64 t195, .int .i64 t196, .string t197, .slice Ao31 t198.length co31, .slice Ao32 t201.length co32, .int .i64 0]) ?_ 5 _ rfl; (with_reducible repeat (first | refine blk_drewN ?_ _ | refine blk_drew ?_ | refine blk_alloc ?_ _)); refine blk_put (cs := #[.int .i64 t195, .int .i64 t196, .string t197, .slice Ao31 t198.length co31, .slice none 0 0, .int .i64 0]) ?_ 4 _ rfl; (with_reducible repeat (first | refine blk_drewN ?_ _ | refine blk_drew ?_ | refine blk_alloc ?_ _)); refine blk_put (cs := #[.int .i64 t195, .int .i64 t196, .string t197, .slice none 0 0, .slice none 0 0, .int .i64 0]) ?_ 3 _ rfl; (with_reducible repeat (first | refine blk_drewN ?_ _ | refine blk_drew ?_ | refine blk_alloc ?_ _)); refine blk_put (cs := #[.int .i64 t195, .int .i64 t196, .string (⟨#[]⟩ : ByteArray), .slice none 0 0, .slice none 0 0, .int .i64 0]) ?_ 2 _ rfl; (with_reducible repeat (first | refine blk_drewN ?_ _ | refine blk_drew ?_ | refine blk_alloc ?_ _)); refine blk_put (cs := #[.int .i64 t195, .int .i64 0, .string (⟨#[]⟩ : ByteArray), .slice none 0 0, .slice none 0 0, .int .i64 0]) ?_ 1 _ rfl; (with_reducible repeat (first | refine blk_drewN ?_ _ | refine blk_drew ?_ | refine blk_alloc ?_ _)); refine blk_put (cs := #[.int .i64 0, .int .i64 0, .string (⟨#[]⟩ : ByteArray), .slice none 0 0, .slice none 0 0, .int .i64 0]) ?_ 0 _ rfl; (with_reducible repeat (first | refine blk_drewN ?_ _ | refine blk_drew ?_ | refine blk_alloc ?_ _)); exact BK206.out⟩
                have n7_ : Aside0 (Below w.heap.size w ((((((w28.setCell ⟨gb206, 0, none⟩ (.int .i64 t195)).setCell ⟨gb206, 1, none⟩ (.int .i64 t196)).setCell ⟨gb206, 2, none⟩ (.string t197)).setCell ⟨gb206, 3, none⟩ (.slice Ao31 t198.length co31)).setCell ⟨gb206, 4, none⟩ (.slice Ao32 t201.length co32)).setCell ⟨gb206, 5, none⟩ (.int .i64 t204))) := ⟨by repeat (first | (with_reducible first | exact HB.out | apply below_alloc | apply pw_below_drewN | apply below_drew1 | refine below_set ?_ GE194.out | refine below_set ?_ GE206.out) | exact HB.out)⟩
                (try clear HO_0)
                (try clear HO_195002)
                (try clear HO_195003)
                (try clear HO200)
                (try clear HO203)
                (try clear BK194)
                (try clear BK206)
                (try clear HB)
                generalize ((((((w28.setCell ⟨gb206, 0, none⟩ (.int .i64 t195)).setCell ⟨gb206, 1, none⟩ (.int .i64 t196)).setCell ⟨gb206, 2, none⟩ (.string t197)).setCell ⟨gb206, 3, none⟩ (.slice Ao31 t198.length co31)).setCell ⟨gb206, 4, none⟩ (.slice Ao32 t201.length co32)).setCell ⟨gb206, 5, none⟩ (.int .i64 t204)) = w33 at n0_ n1_ n2_ n3_ n4_ n5_ n6_ n7_ ⊢
                have HO_0 := n0_
                have HO_195002 := n1_
                have HO_195003 := n2_
                have HO200 := n3_
                have HO203 := n4_
                have BK194 := n5_
                have BK206 := n6_
                have HB := n7_
                clear n0_ n1_ n2_ n3_ n4_ n5_ n6_ n7_
                have n0_ := Aside0.mk (Kd.V_drew HO_0.out)
                have n1_ := Aside0.mk (Kd.V_drew HO_195002.out)
                have n2_ := Aside0.mk (Kd.V_drew HO_195003.out)
                have n3_ := Aside0.mk (Kd.V_drew HO200.out)
                have n4_ := Aside0.mk (Kd.V_drew HO203.out)
                have n5_ := Aside0.mk (blk_drew BK194.out)
                have n6_ := Aside0.mk (blk_drew BK206.out)
                have n7_ := Aside0.mk (below_drew1 HB.out)
                clear HO_0
                clear HO_195002
                clear HO_195003
                clear HO200
                clear HO203
                clear BK194
                clear BK206
                clear HB
                have HO_0 := n0_
                have HO_195002 := n1_
                have HO_195003 := n2_
                have HO200 := n3_
                have HO203 := n4_
                have BK194 := n5_
                have BK206 := n6_
                have HB := n7_
                clear n0_ n1_ n2_ n3_ n4_ n5_ n6_ n7_
                refine start_ (n := 11) (S := fun w' => w'.cell? ⟨gb194, 0, none⟩ = some (.int .i64 a2_0) ∧ w'.cell? ⟨gb194, 1, none⟩ = some (.string a2_1) ∧ w'.cell? ⟨gb194, 2, none⟩ = some (.slice A2_2 l2_2.length c2_2) ∧ w'.cell? ⟨gb194, 3, none⟩ = some (.slice A2_3 l2_3.length c2_3)) (ds := []) #[false, false, false, false, false, false, false, false, false, false, false] (by kernel_rfl) rfl rfl ⟨(blk_cell BK194.out 0).trans rfl, (blk_cell BK194.out 1).trans rfl, (blk_cell BK194.out 2).trans rfl, (blk_cell BK194.out 3).trans rfl⟩ (fun hHeld => ?_); refine with_tabW switchyardref19_Put.tab8 switchyardref19_Put.bits8 (fun HT_ HW_ => ?_)
                generalize w33.drew = w34 at HO_0 HO_195002 HO_195003 HO200 HO203 BK194 BK206 HB hHeld ⊢
                refine pure_ (i := 1) (N := some 32) (v := ?_) (a' := ?_) #[false, true, false, false, false, false, false, false, false, false, false] rfl rfl (any_of HT_.out (by kernel_rfl)) (fun _ _ _ h => h) (Or.inl ⟨by rfl, ?_⟩) ?_ ?_
                rotate_left
                · intro w'
                  go_simp
                  with_reducible rfl
                rotate_left
                · simp only [Act.put, List.setIfInBounds_toArray, List.set_cons_zero, List.set_cons_succ, i64_w, i32_w]
                  rfl
                refine pure_ (i := 3) (N := some 34) (v := ?_) (a' := ?_) #[false, true, false, true, false, false, false, false, false, false, false] rfl rfl (any_of HT_.out (by kernel_rfl)) (fun _ _ _ h => h) (Or.inl ⟨by rfl, ?_⟩) ?_ ?_
                rotate_left
                · intro w'
                  go_simp
                  with_reducible rfl
                rotate_left
                · simp only [Act.put, List.setIfInBounds_toArray, List.set_cons_zero, List.set_cons_succ, i64_w, i32_w]
                  rfl
                refine pure_ (i := 5) (N := some 36) (v := ?_) (a' := ?_) #[false, true, false, true, false, true, false, false, false, false, false] rfl rfl (any_of HT_.out (by kernel_rfl)) (fun _ _ _ h => h) (Or.inl ⟨by rfl, ?_⟩) ?_ ?_
                rotate_left
                · intro w'
                  go_simp
                  with_reducible rfl
                rotate_left
                · simp only [Act.put, List.setIfInBounds_toArray, List.set_cons_zero, List.set_cons_succ, i64_w, i32_w]
                  rfl
                refine take_ (i := 4) (N := some 35) (v := ?_) (a' := ?_) #[false, true, false, true, true, true, false, false, false, false, false] rfl rfl (take_ofW HT_.out HW_.out (by kernel_rfl)) (fun _ _ _ h => h) (Or.inl ⟨by rfl, ?_⟩) hHeld ?_ ?_
                rotate_left
                · rintro w' ⟨s0, s1, s2, s3⟩
                  go_simp
                  with_reducible rfl
                rotate_left
                · simp only [Act.put, List.setIfInBounds_toArray, List.set_cons_zero, List.set_cons_succ, i64_w, i32_w]
                  rfl
                refine pure_ (i := 6) (N := some 37) (v := ?_) (a' := ?_) #[false, true, false, true, true, true, true, false, false, false, false] rfl rfl (any_of HT_.out (by kernel_rfl)) (fun _ _ _ h => h) (Or.inl ⟨by rfl, ?_⟩) ?_ ?_
                rotate_left
                · intro w'
                  go_simp
                  with_reducible rfl
                rotate_left
                · simp only [Act.put, List.setIfInBounds_toArray, List.set_cons_zero, List.set_cons_succ, i64_w, i32_w]
                  rfl
                refine join_ (σ := Value × Value × Value) 3 #[true, true, true, true, true, true, true, true, false, false, false] (fun s_ => [(31, s_.1), (33, s_.2.1), (38, s_.2.2)]) (fun s_ w' => (w'.cell? ⟨gb194, 0, none⟩ = some (.int .i64 a2_0) ∧ w'.cell? ⟨gb194, 1, none⟩ = some (.string a2_1) ∧ w'.cell? ⟨gb194, 2, none⟩ = some (.slice A2_2 l2_2.length c2_2) ∧ w'.cell? ⟨gb194, 3, none⟩ = some (.slice A2_3 l2_3.length c2_3)) ∧ (Kd.V k37 37 w' w.heap.size (fun k_ => ((P0_ k_ ∨ P2_2_ k_ ∨ P2_3_ k_) ∨ w.heap.size ≤ k_) ∧ some k_ ≠ (s_.2.1 : Value).ownBlock ∧ some k_ ≠ (s_.2.2 : Value).ownBlock ∧ k_ ≠ gb194 ∧ k_ ≠ gb206) (.slice Ao31 t198.length co31) t198) ∧ (Kd.V k37 37 w' w.heap.size (fun k_ => ((P0_ k_ ∨ P2_2_ k_ ∨ P2_3_ k_) ∨ w.heap.size ≤ k_) ∧ some k_ ≠ (s_.2.1 : Value).ownBlock ∧ some k_ ≠ (s_.2.2 : Value).ownBlock ∧ k_ ≠ gb194 ∧ k_ ≠ gb206) (.slice Ao32 t201.length co32) t201) ∧ (Kd.N k27 27 w' w.heap.size (fun k_ => ((P0_ k_ ∨ P2_2_ k_ ∨ P2_3_ k_) ∨ w.heap.size ≤ k_) ∧ some k_ ≠ (s_.2.2 : Value).ownBlock ∧ k_ ≠ gb194 ∧ k_ ≠ gb206) s_.2.1 y210) ∧ (Kd.N k27 27 w' w.heap.size (fun k_ => ((P0_ k_ ∨ P2_2_ k_ ∨ P2_3_ k_) ∨ w.heap.size ≤ k_) ∧ some k_ ≠ (s_.2.1 : Value).ownBlock ∧ k_ ≠ gb194 ∧ k_ ≠ gb206) s_.2.2 y213) ∧ (Kd.V k27 27 w' w.heap.size (fun k_ => ((P0_ k_ ∨ P2_2_ k_ ∨ P2_3_ k_) ∨ w.heap.size ≤ k_) ∧ some k_ ≠ (s_.2.1 : Value).ownBlock ∧ some k_ ≠ (s_.2.2 : Value).ownBlock ∧ k_ ≠ gb194 ∧ k_ ≠ gb206) (.slice A0 l0.length c0) l0) ∧ (Kd.V k37 37 w' w.heap.size (fun k_ => ((P0_ k_ ∨ P2_2_ k_ ∨ P2_3_ k_) ∨ w.heap.size ≤ k_) ∧ some k_ ≠ (s_.2.1 : Value).ownBlock ∧ some k_ ≠ (s_.2.2 : Value).ownBlock ∧ k_ ≠ gb194 ∧ k_ ≠ gb206) (.slice A2_2 l2_2.length c2_2) l2_2) ∧ (Kd.V k37 37 w' w.heap.size (fun k_ => ((P0_ k_ ∨ P2_2_ k_ ∨ P2_3_ k_) ∨ w.heap.size ≤ k_) ∧ some k_ ≠ (s_.2.1 : Value).ownBlock ∧ some k_ ≠ (s_.2.2 : Value).ownBlock ∧ k_ ≠ gb194 ∧ k_ ≠ gb206) (.slice A2_3 l2_3.length c2_3) l2_3) ∧ (w'.heap[gb194]? = some (.cells #[.int .i64 a2_0, .string a2_1, .slice A2_2 l2_2.length c2_2, .slice A2_3 l2_3.length c2_3] 25 (0, 0))) ∧ (w'.heap[gb206]? = some (.cells #[.int .i64 t195, .int .i64 t196, .string t197, .slice Ao31 t198.length co31, .slice Ao32 t201.length co32, .int .i64 t204] 27 (0, 0))) ∧ (Below w.heap.size w w')) ?_ ?_
                rotate_left
                · intro hCont
                  refine two_ (i := 0) (j := 7) (Ni := some 31) (Nj := some 38) #[true, true, false, true, true, true, true, false, false, false, false] #[false, true, false, true, true, true, true, true, false, false, false] rfl rfl rfl rfl (two_of HT_.out (by kernel_rfl)) (by decide) (by decide) (fun K hK => ?_) (fun K hK => ?_)
                  · skip
                    refine Kd.N_lit_step k27 _ 27 ?hg (N' := 31) ?hd (xs := ([] : List (S27))) (inner := []) (ok := (fun k_ => ((P0_ k_ ∨ P2_2_ k_ ∨ P2_3_ k_) ∨ w.heap.size ≤ k_) ∧ k_ ≠ gb194 ∧ k_ ≠ gb206)) (okp := (fun k_ => ((P0_ k_ ∨ P2_2_ k_ ∨ P2_3_ k_) ∨ w.heap.size ≤ k_) ∧ k_ ≠ gb194 ∧ k_ ≠ gb206)) ?hr ?hp (fun _ hk => hk) ((show ∀ k_, w34.heap.size ≤ k_ → (fun k_ => ((P0_ k_ ∨ P2_2_ k_ ∨ P2_3_ k_) ∨ w.heap.size ≤ k_) ∧ k_ ≠ gb194 ∧ k_ ≠ gb206) k_ from fun k_ hk => ⟨(.inr (Nat.le_trans (below_size (by repeat (first | (with_reducible first | exact HB.out | apply below_alloc | apply pw_below_drewN | apply below_drew1 | refine below_set ?_ GE194.out | refine below_set ?_ GE206.out) | exact HB.out))) hk)), Kd.freshB (g := gb194) (o := .cells #[.int .i64 a2_0, .string a2_1, .slice A2_2 l2_2.length c2_2, .slice A2_3 l2_3.length c2_3] 25 (0, 0)) (by (with_reducible repeat (first | refine blk_drewN ?_ _ | refine blk_drew ?_ | refine blk_alloc ?_ _)); exact BK194.out) k_ hk, Kd.freshB (g := gb206) (o := .cells #[.int .i64 t195, .int .i64 t196, .string t197, .slice Ao31 t198.length co31, .slice Ao32 t201.length co32, .int .i64 t204] 27 (0, 0)) (by (with_reducible repeat (first | refine blk_drewN ?_ _ | refine blk_drew ?_ | refine blk_alloc ?_ _)); exact BK206.out) k_ hk⟩) _ (Nat.le_refl _)) (Below.refl _ _) (Nat.le_refl _) (by simp) ?_; (case hd => rfl); (case hg => rfl); (case hr => first | (go_simp; done) | (go_simp; rfl)); (case hp => exact (Reps.none _ _))
                    intro v208 w35 ho36 hb hg_ hnew_
                    clear hg_ hnew_
                    (first | rw [← Ny207.out] at ho36 | (simp only [Int.reduceToNat] at ho36; rw [← Ny207.out] at ho36))
                    have n0_ := Aside0.mk (Kd.V_elder' (by (with_reducible repeat (first | apply Kd.V_alloc | apply Kd.V_drewN | apply Kd.V_drew)); exact HO_0.out) (Kd.N_base ho36) hb)
                    have n1_ := Aside0.mk (Kd.V_elder' (by (with_reducible repeat (first | apply Kd.V_alloc | apply Kd.V_drewN | apply Kd.V_drew)); exact HO_195002.out) (Kd.N_base ho36) hb)
                    have n2_ := Aside0.mk (Kd.V_elder' (by (with_reducible repeat (first | apply Kd.V_alloc | apply Kd.V_drewN | apply Kd.V_drew)); exact HO_195003.out) (Kd.N_base ho36) hb)
                    have n3_ := Aside0.mk (Kd.V_elder' (by (with_reducible repeat (first | apply Kd.V_alloc | apply Kd.V_drewN | apply Kd.V_drew)); exact HO200.out) (Kd.N_base ho36) hb)
                    have n4_ := Aside0.mk (Kd.V_elder' (by (with_reducible repeat (first | apply Kd.V_alloc | apply Kd.V_drewN | apply Kd.V_drew)); exact HO203.out) (Kd.N_base ho36) hb)
                    have n5_ := Aside0.mk (Kd.N_lower ho36 (below_size (by repeat (first | (with_reducible first | exact HB.out | apply below_alloc | apply pw_below_drewN | apply below_drew1 | refine below_set ?_ GE194.out | refine below_set ?_ GE206.out) | exact HB.out))))
                    have n6_ := Aside0.mk (blk_below (g := gb194) (o := .cells #[.int .i64 a2_0, .string a2_1, .slice A2_2 l2_2.length c2_2, .slice A2_3 l2_3.length c2_3] 25 (0, 0)) (by (with_reducible repeat (first | refine blk_drewN ?_ _ | refine blk_drew ?_ | refine blk_alloc ?_ _)); exact BK194.out) hb)
                    have n7_ := Aside0.mk (blk_below (g := gb206) (o := .cells #[.int .i64 t195, .int .i64 t196, .string t197, .slice Ao31 t198.length co31, .slice Ao32 t201.length co32, .int .i64 t204] 27 (0, 0)) (by (with_reducible repeat (first | refine blk_drewN ?_ _ | refine blk_drew ?_ | refine blk_alloc ?_ _)); exact BK206.out) hb)
                    have n8_ := Aside0.mk (below_step (by repeat (first | (with_reducible first | exact HB.out | apply below_alloc | apply pw_below_drewN | apply below_drew1 | refine below_set ?_ GE194.out | refine below_set ?_ GE206.out) | exact HB.out)) hb)
                    clear HO_0
                    clear HO_195002
                    clear HO_195003
                    clear HO200
                    clear HO203
                    clear BK194
                    clear BK206
                    clear HB
                    have HO_0 := n0_
                    have HO_195002 := n1_
                    have HO_195003 := n2_
                    have HO200 := n3_
                    have HO203 := n4_
                    have HO209 := n5_
                    have BK194 := n6_
                    have BK206 := n7_
                    have HB := n8_
                    clear n0_ n1_ n2_ n3_ n4_ n5_ n6_ n7_ n8_
                    clear hb ho36
                    refine hK.out _ _ ⟨(blk_cell BK194.out 0).trans rfl, (blk_cell BK194.out 1).trans rfl, (blk_cell BK194.out 2).trans rfl, (blk_cell BK194.out 3).trans rfl⟩ (fun hHeld => ?_)
                    clear hK K
                    refine norm_ (a' := ?_) ?_ ?_
                    rotate_left
                    · show Act.put _ (some 31) _ = _
                      simp only [Act.put, List.setIfInBounds_toArray, List.set_cons_zero, List.set_cons_succ, i64_w, i32_w]
                      rfl
                    refine two_ (i := 2) (j := 7) (Ni := some 33) (Nj := some 38) #[true, true, true, true, true, true, true, false, false, false, false] #[true, true, false, true, true, true, true, true, false, false, false] rfl rfl rfl rfl (two_of HT_.out (by kernel_rfl)) (by decide) (by decide) (fun K hK => ?_) (fun K hK => ?_)
                    · skip
                      refine Kd.N_append_rows_step k27 (w0 := w) w.heap.size (by rfl) (.tmp 31) (.tmp 32) 22 27 (.agg #[(.int .i64 0), (.int .i64 0), (.string ⟨#[]⟩), (.slice none 0 0), (.slice none 0 0), (.int .i64 0)]) 88 rfl Tryd.underlying22 info27 rfl (by decide) (by omega) v208 y207 l0 _ _ _ (fun k_ => ((P0_ k_ ∨ P2_2_ k_ ∨ P2_3_ k_) ∨ w.heap.size ≤ k_) ∧ k_ ≠ gb194 ∧ k_ ≠ gb206) (fun k_ => ((fun k_ => ((P0_ k_ ∨ P2_2_ k_ ∨ P2_3_ k_) ∨ w.heap.size ≤ k_) ∧ k_ ≠ gb194 ∧ k_ ≠ gb206)) k_ ∧ some k_ ≠ (v208 : Value).ownBlock) rfl rfl ?aO ?aR (fun _ hk => hk) ?aF ?aB ?aS ?aL ?_
                      (case aR => exact (by skip; exact Kd.V_F (Kd.V_mono (ok' := (fun k_ => ((fun k_ => ((P0_ k_ ∨ P2_2_ k_ ∨ P2_3_ k_) ∨ w.heap.size ≤ k_) ∧ k_ ≠ gb194 ∧ k_ ≠ gb206)) k_ ∧ some k_ ≠ (v208 : Value).ownBlock)) (HO_0.out) (fun k_ hk => ⟨⟨hk.1.1, ⟨hk.1.2.1, hk.1.2.2⟩⟩, hk.2⟩))))
                      (case aB => exact (by repeat (first | (with_reducible first | exact HB.out | apply below_alloc | apply pw_below_drewN | apply below_drew1 | refine below_set ?_ GE194.out | refine below_set ?_ GE206.out) | exact HB.out)))
                      (case aF => exact (fun k_ hk => ⟨(.inr (Nat.le_trans (below_size (by repeat (first | (with_reducible first | exact HB.out | apply below_alloc | apply pw_below_drewN | apply below_drew1 | refine below_set ?_ GE194.out | refine below_set ?_ GE206.out) | exact HB.out))) hk)), Kd.freshB (g := gb194) (o := .cells #[.int .i64 a2_0, .string a2_1, .slice A2_2 l2_2.length c2_2, .slice A2_3 l2_3.length c2_3] 25 (0, 0)) (by (with_reducible repeat (first | refine blk_drewN ?_ _ | refine blk_drew ?_ | refine blk_alloc ?_ _)); exact BK194.out) k_ hk, Kd.freshB (g := gb206) (o := .cells #[.int .i64 t195, .int .i64 t196, .string t197, .slice Ao31 t198.length co31, .slice Ao32 t201.length co32, .int .i64 t204] 27 (0, 0)) (by (with_reducible repeat (first | refine blk_drewN ?_ _ | refine blk_drew ?_ | refine blk_alloc ?_ _)); exact BK206.out) k_ hk⟩))
                      (case aO => exact (by (with_reducible repeat (first | apply Kd.N_alloc | apply Kd.N_drewN | apply Kd.N_drew)); exact HO209.out))
                      (case aS => exact (below_size (by repeat (first | (with_reducible first | exact HB.out | apply below_alloc | apply pw_below_drewN | apply below_drew1 | refine below_set ?_ GE194.out | refine below_set ?_ GE206.out) | exact HB.out))))
                      (case aL => have := LMc25.out; omega)
                      intro v211 w37 ho hb hg hat
                      rw [← Ny210.out] at ho
                      have n0_ := Aside0.mk (Kd.V_afterv (ok := (fun k_ => ((P0_ k_ ∨ P2_2_ k_ ∨ P2_3_ k_) ∨ w.heap.size ≤ k_) ∧ k_ ≠ gb194 ∧ k_ ≠ gb206)) (by (with_reducible repeat (first | apply Kd.V_alloc | apply Kd.V_drewN | apply Kd.V_drew)); exact HO_0.out) hg hat)
                      have n1_ := Aside0.mk (Kd.V_afterv (ok := (fun k_ => ((P0_ k_ ∨ P2_2_ k_ ∨ P2_3_ k_) ∨ w.heap.size ≤ k_) ∧ k_ ≠ gb194 ∧ k_ ≠ gb206)) (by (with_reducible repeat (first | apply Kd.V_alloc | apply Kd.V_drewN | apply Kd.V_drew)); exact HO_195002.out) hg hat)
                      have n2_ := Aside0.mk (Kd.V_afterv (ok := (fun k_ => ((P0_ k_ ∨ P2_2_ k_ ∨ P2_3_ k_) ∨ w.heap.size ≤ k_) ∧ k_ ≠ gb194 ∧ k_ ≠ gb206)) (by (with_reducible repeat (first | apply Kd.V_alloc | apply Kd.V_drewN | apply Kd.V_drew)); exact HO_195003.out) hg hat)
                      have n3_ := Aside0.mk (blk_grown (g := gb194) (o := .cells #[.int .i64 a2_0, .string a2_1, .slice A2_2 l2_2.length c2_2, .slice A2_3 l2_3.length c2_3] 25 (0, 0)) (by (with_reducible repeat (first | refine blk_drewN ?_ _ | refine blk_drew ?_ | refine blk_alloc ?_ _)); exact BK194.out) hg (Kd.N_ne HO209.out BK194.out (by decide)))
                      have n4_ := Aside0.mk (Kd.V_afterv (ok := (fun k_ => ((P0_ k_ ∨ P2_2_ k_ ∨ P2_3_ k_) ∨ w.heap.size ≤ k_) ∧ k_ ≠ gb194 ∧ k_ ≠ gb206)) (by (with_reducible repeat (first | apply Kd.V_alloc | apply Kd.V_drewN | apply Kd.V_drew)); exact HO200.out) hg hat)
                      have n5_ := Aside0.mk (Kd.V_afterv (ok := (fun k_ => ((P0_ k_ ∨ P2_2_ k_ ∨ P2_3_ k_) ∨ w.heap.size ≤ k_) ∧ k_ ≠ gb194 ∧ k_ ≠ gb206)) (by (with_reducible repeat (first | apply Kd.V_alloc | apply Kd.V_drewN | apply Kd.V_drew)); exact HO203.out) hg hat)
                      have n6_ := Aside0.mk (blk_grown (g := gb206) (o := .cells #[.int .i64 t195, .int .i64 t196, .string t197, .slice Ao31 t198.length co31, .slice Ao32 t201.length co32, .int .i64 t204] 27 (0, 0)) (by (with_reducible repeat (first | refine blk_drewN ?_ _ | refine blk_drew ?_ | refine blk_alloc ?_ _)); exact BK206.out) hg (Kd.N_away HO209.out (fun _ hk => hk.2.2)))
                      have n7_ := Aside0.mk (hb)
                      have n8_ := Aside0.mk (ho)
                      clear HO_0
                      clear HO_195002
                      clear HO_195003
                      clear BK194
                      clear HO200
                      clear HO203
                      clear BK206
                      clear HB
                      clear HO209
                      have HO_0 := n0_
                      have HO_195002 := n1_
                      have HO_195003 := n2_
                      have BK194 := n3_
                      have HO200 := n4_
                      have HO203 := n5_
                      have BK206 := n6_
                      have HB := n7_
                      have HO212 := n8_
                      clear n0_ n1_ n2_ n3_ n4_ n5_ n6_ n7_ n8_
                      clear ho hb hg hat
                      refine hK.out _ _ ⟨(blk_cell BK194.out 0).trans rfl, (blk_cell BK194.out 1).trans rfl, (blk_cell BK194.out 2).trans rfl, (blk_cell BK194.out 3).trans rfl⟩ (fun hHeld => ?_)
                      clear hK K
                      refine norm_ (a' := ?_) ?_ ?_
                      rotate_left
                      · show Act.put _ (some 33) _ = _
                        simp only [Act.put, List.setIfInBounds_toArray, List.set_cons_zero, List.set_cons_succ, i64_w, i32_w]
                        rfl
                      refine one_ (i := 7) (N := some 38) #[true, true, true, true, true, true, true, true, false, false, false] rfl rfl (one_of HT_.out (by kernel_rfl)) (by decide) (fun K hK => ?_)
                      refine Kd.N_lit_step k27 _ 27 ?hg (N' := 38) ?hd (xs := ([(⟨a1, (⟨a2_0, a2_1, l2_2, l2_3⟩ : S25), a3⟩ : S27)] : List (S27))) (inner := [.int .i64 a1, .int .i64 a2_0, .string a2_1, .slice A2_2 l2_2.length c2_2, .slice A2_3 l2_3.length c2_3, .int .i64 a3]) (ok := (fun k_ => ((P0_ k_ ∨ P2_2_ k_ ∨ P2_3_ k_) ∨ w.heap.size ≤ k_) ∧ some k_ ≠ (v211 : Value).ownBlock ∧ k_ ≠ gb194 ∧ k_ ≠ gb206)) (okp := (fun k_ => ((P0_ k_ ∨ P2_2_ k_ ∨ P2_3_ k_) ∨ w.heap.size ≤ k_) ∧ some k_ ≠ (v211 : Value).ownBlock ∧ k_ ≠ gb194 ∧ k_ ≠ gb206)) ?hr ?hp (fun _ hk => hk) ((show ∀ k_, w37.heap.size ≤ k_ → (fun k_ => ((P0_ k_ ∨ P2_2_ k_ ∨ P2_3_ k_) ∨ w.heap.size ≤ k_) ∧ some k_ ≠ (v211 : Value).ownBlock ∧ k_ ≠ gb194 ∧ k_ ≠ gb206) k_ from fun k_ hk => ⟨(.inr (Nat.le_trans (below_size (by repeat (first | (with_reducible first | exact HB.out | apply below_alloc | apply pw_below_drewN | apply below_drew1 | refine below_set ?_ GE194.out | refine below_set ?_ GE206.out) | exact HB.out))) hk)), Kd.fresh' (Kd.N_lt (by (with_reducible repeat (first | apply Kd.N_alloc | apply Kd.N_drewN | apply Kd.N_drew)); exact HO212.out)) k_ hk, Kd.freshB (g := gb194) (o := .cells #[.int .i64 a2_0, .string a2_1, .slice A2_2 l2_2.length c2_2, .slice A2_3 l2_3.length c2_3] 25 (0, 0)) (by (with_reducible repeat (first | refine blk_drewN ?_ _ | refine blk_drew ?_ | refine blk_alloc ?_ _)); exact BK194.out) k_ hk, Kd.freshB (g := gb206) (o := .cells #[.int .i64 t195, .int .i64 t196, .string t197, .slice Ao31 t198.length co31, .slice Ao32 t201.length co32, .int .i64 t204] 27 (0, 0)) (by (with_reducible repeat (first | refine blk_drewN ?_ _ | refine blk_drew ?_ | refine blk_alloc ?_ _)); exact BK206.out) k_ hk⟩) _ (Nat.le_refl _)) (Below.refl _ _) (Nat.le_refl _) (by simp) ?_; (case hd => rfl); (case hg => rfl); (case hr => first | (go_simp; done) | (go_simp; rfl)); (case hp => exact (Reps.c6 (show Kd.FK k27 _ _ (⟨a1, (⟨a2_0, a2_1, l2_2, l2_3⟩ : S25), a3⟩ : S27) [.int .i64 a1, .int .i64 a2_0, .string a2_1, .slice A2_2 l2_2.length c2_2, .slice A2_3 l2_3.length c2_3, .int .i64 a3] from (k27_mkF _ _ (⟨a1, (⟨a2_0, a2_1, l2_2, l2_3⟩ : S25), a3⟩ : S27) (Kd.V_reads' (Kd.V_mono (ok' := (fun k_ => ((P0_ k_ ∨ P2_2_ k_ ∨ P2_3_ k_) ∨ w.heap.size ≤ k_) ∧ some k_ ≠ (v211 : Value).ownBlock ∧ k_ ≠ gb194 ∧ k_ ≠ gb206)) (HO_195002.out) (fun k_ hk => ⟨hk.1.1, ⟨hk.2, ⟨hk.1.2.1, hk.1.2.2⟩⟩⟩))).2.1 (Kd.V_F (Kd.V_mono (ok' := (fun k_ => ((P0_ k_ ∨ P2_2_ k_ ∨ P2_3_ k_) ∨ w.heap.size ≤ k_) ∧ some k_ ≠ (v211 : Value).ownBlock ∧ k_ ≠ gb194 ∧ k_ ≠ gb206)) (HO_195002.out) (fun k_ hk => ⟨hk.1.1, ⟨hk.2, ⟨hk.1.2.1, hk.1.2.2⟩⟩⟩))) (Kd.V_reads' (Kd.V_mono (ok' := (fun k_ => ((P0_ k_ ∨ P2_2_ k_ ∨ P2_3_ k_) ∨ w.heap.size ≤ k_) ∧ some k_ ≠ (v211 : Value).ownBlock ∧ k_ ≠ gb194 ∧ k_ ≠ gb206)) (HO_195003.out) (fun k_ hk => ⟨hk.1.1, ⟨hk.2, ⟨hk.1.2.1, hk.1.2.2⟩⟩⟩))).2.1 (Kd.V_F (Kd.V_mono (ok' := (fun k_ => ((P0_ k_ ∨ P2_2_ k_ ∨ P2_3_ k_) ∨ w.heap.size ≤ k_) ∧ some k_ ≠ (v211 : Value).ownBlock ∧ k_ ≠ gb194 ∧ k_ ≠ gb206)) (HO_195003.out) (fun k_ hk => ⟨hk.1.1, ⟨hk.2, ⟨hk.1.2.1, hk.1.2.2⟩⟩⟩))))) (Reps.none _ _)))
                      intro v214 w38 ho39 hb hg_ hnew_
                      clear hg_ hnew_
                      (first | rw [← Ny213.out] at ho39 | (simp only [Int.reduceToNat] at ho39; rw [← Ny213.out] at ho39))
                      have n0_ := Aside0.mk (Kd.V_elder' (by (with_reducible repeat (first | apply Kd.V_alloc | apply Kd.V_drewN | apply Kd.V_drew)); exact HO_0.out) (Kd.N_base ho39) hb)
                      have n1_ := Aside0.mk (Kd.V_elder' (by (with_reducible repeat (first | apply Kd.V_alloc | apply Kd.V_drewN | apply Kd.V_drew)); exact HO_195002.out) (Kd.N_base ho39) hb)
                      have n2_ := Aside0.mk (Kd.V_elder' (by (with_reducible repeat (first | apply Kd.V_alloc | apply Kd.V_drewN | apply Kd.V_drew)); exact HO_195003.out) (Kd.N_base ho39) hb)
                      have n3_ := Aside0.mk (Kd.V_elder' (by (with_reducible repeat (first | apply Kd.V_alloc | apply Kd.V_drewN | apply Kd.V_drew)); exact HO200.out) (Kd.N_base ho39) hb)
                      have n4_ := Aside0.mk (Kd.V_elder' (by (with_reducible repeat (first | apply Kd.V_alloc | apply Kd.V_drewN | apply Kd.V_drew)); exact HO203.out) (Kd.N_base ho39) hb)
                      have n5_ := Aside0.mk (Kd.N_elder' (by (with_reducible repeat (first | apply Kd.N_alloc | apply Kd.N_drewN | apply Kd.N_drew)); exact HO212.out) (Kd.N_base ho39) hb)
                      have n6_ := Aside0.mk (Kd.N_lower ho39 (below_size (by repeat (first | (with_reducible first | exact HB.out | apply below_alloc | apply pw_below_drewN | apply below_drew1 | refine below_set ?_ GE194.out | refine below_set ?_ GE206.out) | exact HB.out))))
                      have n7_ := Aside0.mk (blk_below (g := gb194) (o := .cells #[.int .i64 a2_0, .string a2_1, .slice A2_2 l2_2.length c2_2, .slice A2_3 l2_3.length c2_3] 25 (0, 0)) (by (with_reducible repeat (first | refine blk_drewN ?_ _ | refine blk_drew ?_ | refine blk_alloc ?_ _)); exact BK194.out) hb)
                      have n8_ := Aside0.mk (blk_below (g := gb206) (o := .cells #[.int .i64 t195, .int .i64 t196, .string t197, .slice Ao31 t198.length co31, .slice Ao32 t201.length co32, .int .i64 t204] 27 (0, 0)) (by (with_reducible repeat (first | refine blk_drewN ?_ _ | refine blk_drew ?_ | refine blk_alloc ?_ _)); exact BK206.out) hb)
                      have n9_ := Aside0.mk (below_step (by repeat (first | (with_reducible first | exact HB.out | apply below_alloc | apply pw_below_drewN | apply below_drew1 | refine below_set ?_ GE194.out | refine below_set ?_ GE206.out) | exact HB.out)) hb)
                      clear HO_0
                      clear HO_195002
                      clear HO_195003
                      clear HO200
                      clear HO203
                      clear HO212
                      clear BK194
                      clear BK206
                      clear HB
                      have HO_0 := n0_
                      have HO_195002 := n1_
                      have HO_195003 := n2_
                      have HO200 := n3_
                      have HO203 := n4_
                      have HO212 := n5_
                      have HO215 := n6_
                      have BK194 := n7_
                      have BK206 := n8_
                      have HB := n9_
                      clear n0_ n1_ n2_ n3_ n4_ n5_ n6_ n7_ n8_ n9_
                      clear hb ho39
                      refine hK.out _ _ ⟨(blk_cell BK194.out 0).trans rfl, (blk_cell BK194.out 1).trans rfl, (blk_cell BK194.out 2).trans rfl, (blk_cell BK194.out 3).trans rfl⟩ (fun hHeld => ?_)
                      clear hK K
                      refine norm_ (a' := ?_) ?_ ?_
                      rotate_left
                      · show Act.put _ (some 38) _ = _
                        simp only [Act.put, List.setIfInBounds_toArray, List.set_cons_zero, List.set_cons_succ, i64_w, i32_w]
                        rfl
                      exact norm_ (by simp only [putAll, Act.put, List.setIfInBounds_toArray, List.set_cons_zero, List.set_cons_succ]) (hCont (v208, v211, v214) _ ⟨hHeld, (by (with_reducible repeat (first | apply Kd.V_alloc | apply Kd.V_drewN | apply Kd.V_drew)); exact Kd.V_mono HO200.out (fun _ hk => ⟨hk.1.1.1, ⟨hk.1.2, ⟨hk.2, ⟨hk.1.1.2.1, hk.1.1.2.2⟩⟩⟩⟩)), (by (with_reducible repeat (first | apply Kd.V_alloc | apply Kd.V_drewN | apply Kd.V_drew)); exact Kd.V_mono HO203.out (fun _ hk => ⟨hk.1.1.1, ⟨hk.1.2, ⟨hk.2, ⟨hk.1.1.2.1, hk.1.1.2.2⟩⟩⟩⟩)), (by (with_reducible repeat (first | apply Kd.N_alloc | apply Kd.N_drewN | apply Kd.N_drew)); exact Kd.N_mono HO212.out (fun _ hk => ⟨hk.1.1, ⟨hk.2, ⟨hk.1.2.1, hk.1.2.2⟩⟩⟩)), (by (with_reducible repeat (first | apply Kd.N_alloc | apply Kd.N_drewN | apply Kd.N_drew)); exact HO215.out), (by (with_reducible repeat (first | apply Kd.V_alloc | apply Kd.V_drewN | apply Kd.V_drew)); exact Kd.V_mono HO_0.out (fun _ hk => ⟨hk.1.1.1, ⟨hk.1.2, ⟨hk.2, ⟨hk.1.1.2.1, hk.1.1.2.2⟩⟩⟩⟩)), (by (with_reducible repeat (first | apply Kd.V_alloc | apply Kd.V_drewN | apply Kd.V_drew)); exact Kd.V_mono HO_195002.out (fun _ hk => ⟨hk.1.1.1, ⟨hk.1.2, ⟨hk.2, ⟨hk.1.1.2.1, hk.1.1.2.2⟩⟩⟩⟩)), (by (with_reducible repeat (first | apply Kd.V_alloc | apply Kd.V_drewN | apply Kd.V_drew)); exact Kd.V_mono HO_195003.out (fun _ hk => ⟨hk.1.1.1, ⟨hk.1.2, ⟨hk.2, ⟨hk.1.1.2.1, hk.1.1.2.2⟩⟩⟩⟩)), (by (with_reducible repeat (first | refine blk_drewN ?_ _ | refine blk_drew ?_ | refine blk_alloc ?_ _)); exact BK194.out), (by (with_reducible repeat (first | refine blk_drewN ?_ _ | refine blk_drew ?_ | refine blk_alloc ?_ _)); exact BK206.out), (by repeat (first | (with_reducible first | exact HB.out | apply below_alloc | apply pw_below_drewN | apply below_drew1 | refine below_set ?_ GE194.out | refine below_set ?_ GE206.out) | exact HB.out))⟩)
                    · skip
                      refine Kd.N_lit_step k27 _ 27 ?hg (N' := 38) ?hd (xs := ([(⟨a1, (⟨a2_0, a2_1, l2_2, l2_3⟩ : S25), a3⟩ : S27)] : List (S27))) (inner := [.int .i64 a1, .int .i64 a2_0, .string a2_1, .slice A2_2 l2_2.length c2_2, .slice A2_3 l2_3.length c2_3, .int .i64 a3]) (ok := (fun k_ => ((P0_ k_ ∨ P2_2_ k_ ∨ P2_3_ k_) ∨ w.heap.size ≤ k_) ∧ some k_ ≠ (v208 : Value).ownBlock ∧ k_ ≠ gb194 ∧ k_ ≠ gb206)) (okp := (fun k_ => ((P0_ k_ ∨ P2_2_ k_ ∨ P2_3_ k_) ∨ w.heap.size ≤ k_) ∧ some k_ ≠ (v208 : Value).ownBlock ∧ k_ ≠ gb194 ∧ k_ ≠ gb206)) ?hr ?hp (fun _ hk => hk) ((show ∀ k_, w35.heap.size ≤ k_ → (fun k_ => ((P0_ k_ ∨ P2_2_ k_ ∨ P2_3_ k_) ∨ w.heap.size ≤ k_) ∧ some k_ ≠ (v208 : Value).ownBlock ∧ k_ ≠ gb194 ∧ k_ ≠ gb206) k_ from fun k_ hk => ⟨(.inr (Nat.le_trans (below_size (by repeat (first | (with_reducible first | exact HB.out | apply below_alloc | apply pw_below_drewN | apply below_drew1 | refine below_set ?_ GE194.out | refine below_set ?_ GE206.out) | exact HB.out))) hk)), Kd.fresh' (Kd.N_lt (by (with_reducible repeat (first | apply Kd.N_alloc | apply Kd.N_drewN | apply Kd.N_drew)); exact HO209.out)) k_ hk, Kd.freshB (g := gb194) (o := .cells #[.int .i64 a2_0, .string a2_1, .slice A2_2 l2_2.length c2_2, .slice A2_3 l2_3.length c2_3] 25 (0, 0)) (by (with_reducible repeat (first | refine blk_drewN ?_ _ | refine blk_drew ?_ | refine blk_alloc ?_ _)); exact BK194.out) k_ hk, Kd.freshB (g := gb206) (o := .cells #[.int .i64 t195, .int .i64 t196, .string t197, .slice Ao31 t198.length co31, .slice Ao32 t201.length co32, .int .i64 t204] 27 (0, 0)) (by (with_reducible repeat (first | refine blk_drewN ?_ _ | refine blk_drew ?_ | refine blk_alloc ?_ _)); exact BK206.out) k_ hk⟩) _ (Nat.le_refl _)) (Below.refl _ _) (Nat.le_refl _) (by simp) ?_; (case hd => rfl); (case hg => rfl); (case hr => first | (go_simp; done) | (go_simp; rfl)); (case hp => exact (Reps.c6 (show Kd.FK k27 _ _ (⟨a1, (⟨a2_0, a2_1, l2_2, l2_3⟩ : S25), a3⟩ : S27) [.int .i64 a1, .int .i64 a2_0, .string a2_1, .slice A2_2 l2_2.length c2_2, .slice A2_3 l2_3.length c2_3, .int .i64 a3] from (k27_mkF _ _ (⟨a1, (⟨a2_0, a2_1, l2_2, l2_3⟩ : S25), a3⟩ : S27) (Kd.V_reads' (Kd.V_mono (ok' := (fun k_ => ((P0_ k_ ∨ P2_2_ k_ ∨ P2_3_ k_) ∨ w.heap.size ≤ k_) ∧ some k_ ≠ (v208 : Value).ownBlock ∧ k_ ≠ gb194 ∧ k_ ≠ gb206)) (HO_195002.out) (fun k_ hk => ⟨hk.1.1, ⟨hk.2, ⟨hk.1.2.1, hk.1.2.2⟩⟩⟩))).2.1 (Kd.V_F (Kd.V_mono (ok' := (fun k_ => ((P0_ k_ ∨ P2_2_ k_ ∨ P2_3_ k_) ∨ w.heap.size ≤ k_) ∧ some k_ ≠ (v208 : Value).ownBlock ∧ k_ ≠ gb194 ∧ k_ ≠ gb206)) (HO_195002.out) (fun k_ hk => ⟨hk.1.1, ⟨hk.2, ⟨hk.1.2.1, hk.1.2.2⟩⟩⟩))) (Kd.V_reads' (Kd.V_mono (ok' := (fun k_ => ((P0_ k_ ∨ P2_2_ k_ ∨ P2_3_ k_) ∨ w.heap.size ≤ k_) ∧ some k_ ≠ (v208 : Value).ownBlock ∧ k_ ≠ gb194 ∧ k_ ≠ gb206)) (HO_195003.out) (fun k_ hk => ⟨hk.1.1, ⟨hk.2, ⟨hk.1.2.1, hk.1.2.2⟩⟩⟩))).2.1 (Kd.V_F (Kd.V_mono (ok' := (fun k_ => ((P0_ k_ ∨ P2_2_ k_ ∨ P2_3_ k_) ∨ w.heap.size ≤ k_) ∧ some k_ ≠ (v208 : Value).ownBlock ∧ k_ ≠ gb194 ∧ k_ ≠ gb206)) (HO_195003.out) (fun k_ hk => ⟨hk.1.1, ⟨hk.2, ⟨hk.1.2.1, hk.1.2.2⟩⟩⟩))))) (Reps.none _ _)))
                      intro v214 w37 ho38 hb hg_ hnew_
                      clear hg_ hnew_
                      (first | rw [← Ny213.out] at ho38 | (simp only [Int.reduceToNat] at ho38; rw [← Ny213.out] at ho38))
                      have n0_ := Aside0.mk (Kd.V_elder' (by (with_reducible repeat (first | apply Kd.V_alloc | apply Kd.V_drewN | apply Kd.V_drew)); exact HO_0.out) (Kd.N_base ho38) hb)
                      have n1_ := Aside0.mk (Kd.V_elder' (by (with_reducible repeat (first | apply Kd.V_alloc | apply Kd.V_drewN | apply Kd.V_drew)); exact HO_195002.out) (Kd.N_base ho38) hb)
                      have n2_ := Aside0.mk (Kd.V_elder' (by (with_reducible repeat (first | apply Kd.V_alloc | apply Kd.V_drewN | apply Kd.V_drew)); exact HO_195003.out) (Kd.N_base ho38) hb)
                      have n3_ := Aside0.mk (Kd.V_elder' (by (with_reducible repeat (first | apply Kd.V_alloc | apply Kd.V_drewN | apply Kd.V_drew)); exact HO200.out) (Kd.N_base ho38) hb)
                      have n4_ := Aside0.mk (Kd.V_elder' (by (with_reducible repeat (first | apply Kd.V_alloc | apply Kd.V_drewN | apply Kd.V_drew)); exact HO203.out) (Kd.N_base ho38) hb)
                      have n5_ := Aside0.mk (Kd.N_elder' (by (with_reducible repeat (first | apply Kd.N_alloc | apply Kd.N_drewN | apply Kd.N_drew)); exact HO209.out) (Kd.N_base ho38) hb)
                      have n6_ := Aside0.mk (Kd.N_lower ho38 (below_size (by repeat (first | (with_reducible first | exact HB.out | apply below_alloc | apply pw_below_drewN | apply below_drew1 | refine below_set ?_ GE194.out | refine below_set ?_ GE206.out) | exact HB.out))))
                      have n7_ := Aside0.mk (blk_below (g := gb194) (o := .cells #[.int .i64 a2_0, .string a2_1, .slice A2_2 l2_2.length c2_2, .slice A2_3 l2_3.length c2_3] 25 (0, 0)) (by (with_reducible repeat (first | refine blk_drewN ?_ _ | refine blk_drew ?_ | refine blk_alloc ?_ _)); exact BK194.out) hb)
                      have n8_ := Aside0.mk (blk_below (g := gb206) (o := .cells #[.int .i64 t195, .int .i64 t196, .string t197, .slice Ao31 t198.length co31, .slice Ao32 t201.length co32, .int .i64 t204] 27 (0, 0)) (by (with_reducible repeat (first | refine blk_drewN ?_ _ | refine blk_drew ?_ | refine blk_alloc ?_ _)); exact BK206.out) hb)
                      have n9_ := Aside0.mk (below_step (by repeat (first | (with_reducible first | exact HB.out | apply below_alloc | apply pw_below_drewN | apply below_drew1 | refine below_set ?_ GE194.out | refine below_set ?_ GE206.out) | exact HB.out)) hb)
                      clear HO_0
                      clear HO_195002
                      clear HO_195003
                      clear HO200
                      clear HO203
                      clear HO209
                      clear BK194
                      clear BK206
                      clear HB
                      have HO_0 := n0_
                      have HO_195002 := n1_
                      have HO_195003 := n2_
                      have HO200 := n3_
                      have HO203 := n4_
                      have HO209 := n5_
                      have HO215 := n6_
                      have BK194 := n7_
                      have BK206 := n8_
                      have HB := n9_
                      clear n0_ n1_ n2_ n3_ n4_ n5_ n6_ n7_ n8_ n9_
                      clear hb ho38
                      refine hK.out _ _ ⟨(blk_cell BK194.out 0).trans rfl, (blk_cell BK194.out 1).trans rfl, (blk_cell BK194.out 2).trans rfl, (blk_cell BK194.out 3).trans rfl⟩ (fun hHeld => ?_)
                      clear hK K
                      refine norm_ (a' := ?_) ?_ ?_
                      rotate_left
                      · show Act.put _ (some 38) _ = _
                        simp only [Act.put, List.setIfInBounds_toArray, List.set_cons_zero, List.set_cons_succ, i64_w, i32_w]
                        rfl
                      refine one_ (i := 2) (N := some 33) #[true, true, true, true, true, true, true, true, false, false, false] rfl rfl (one_of HT_.out (by kernel_rfl)) (by decide) (fun K hK => ?_)
                      refine Kd.N_append_rows_step k27 (w0 := w) w.heap.size (by rfl) (.tmp 31) (.tmp 32) 22 27 (.agg #[(.int .i64 0), (.int .i64 0), (.string ⟨#[]⟩), (.slice none 0 0), (.slice none 0 0), (.int .i64 0)]) 88 rfl Tryd.underlying22 info27 rfl (by decide) (by omega) v208 y207 l0 _ _ _ (fun k_ => ((P0_ k_ ∨ P2_2_ k_ ∨ P2_3_ k_) ∨ w.heap.size ≤ k_) ∧ some k_ ≠ (v214 : Value).ownBlock ∧ k_ ≠ gb194 ∧ k_ ≠ gb206) (fun k_ => ((fun k_ => ((P0_ k_ ∨ P2_2_ k_ ∨ P2_3_ k_) ∨ w.heap.size ≤ k_) ∧ some k_ ≠ (v214 : Value).ownBlock ∧ k_ ≠ gb194 ∧ k_ ≠ gb206)) k_ ∧ some k_ ≠ (v208 : Value).ownBlock) rfl rfl ?aO ?aR (fun _ hk => hk) ?aF ?aB ?aS ?aL ?_
                      (case aR => exact (by skip; exact Kd.V_F (Kd.V_mono (ok' := (fun k_ => ((fun k_ => ((P0_ k_ ∨ P2_2_ k_ ∨ P2_3_ k_) ∨ w.heap.size ≤ k_) ∧ some k_ ≠ (v214 : Value).ownBlock ∧ k_ ≠ gb194 ∧ k_ ≠ gb206)) k_ ∧ some k_ ≠ (v208 : Value).ownBlock)) (HO_0.out) (fun k_ hk => ⟨⟨hk.1.1.1, ⟨hk.2, ⟨hk.1.1.2.1, hk.1.1.2.2⟩⟩⟩, hk.1.2⟩))))
                      (case aB => exact (by repeat (first | (with_reducible first | exact HB.out | apply below_alloc | apply pw_below_drewN | apply below_drew1 | refine below_set ?_ GE194.out | refine below_set ?_ GE206.out) | exact HB.out)))
                      (case aF => exact (fun k_ hk => ⟨(.inr (Nat.le_trans (below_size (by repeat (first | (with_reducible first | exact HB.out | apply below_alloc | apply pw_below_drewN | apply below_drew1 | refine below_set ?_ GE194.out | refine below_set ?_ GE206.out) | exact HB.out))) hk)), Kd.fresh' (Kd.N_lt (by (with_reducible repeat (first | apply Kd.N_alloc | apply Kd.N_drewN | apply Kd.N_drew)); exact HO215.out)) k_ hk, Kd.freshB (g := gb194) (o := .cells #[.int .i64 a2_0, .string a2_1, .slice A2_2 l2_2.length c2_2, .slice A2_3 l2_3.length c2_3] 25 (0, 0)) (by (with_reducible repeat (first | refine blk_drewN ?_ _ | refine blk_drew ?_ | refine blk_alloc ?_ _)); exact BK194.out) k_ hk, Kd.freshB (g := gb206) (o := .cells #[.int .i64 t195, .int .i64 t196, .string t197, .slice Ao31 t198.length co31, .slice Ao32 t201.length co32, .int .i64 t204] 27 (0, 0)) (by (with_reducible repeat (first | refine blk_drewN ?_ _ | refine blk_drew ?_ | refine blk_alloc ?_ _)); exact BK206.out) k_ hk⟩))
                      (case aO => exact (by (with_reducible repeat (first | apply Kd.N_alloc | apply Kd.N_drewN | apply Kd.N_drew)); exact Kd.N_mono HO209.out (fun _ hk => ⟨hk.1.1, ⟨hk.2, ⟨hk.1.2.1, hk.1.2.2⟩⟩⟩)))
                      (case aS => exact (below_size (by repeat (first | (with_reducible first | exact HB.out | apply below_alloc | apply pw_below_drewN | apply below_drew1 | refine below_set ?_ GE194.out | refine below_set ?_ GE206.out) | exact HB.out))))
                      (case aL => have := LMc25.out; omega)
                      intro v211 w39 ho hb hg hat
                      rw [← Ny210.out] at ho
                      have n0_ := Aside0.mk (Kd.V_afterv (ok := (fun k_ => ((P0_ k_ ∨ P2_2_ k_ ∨ P2_3_ k_) ∨ w.heap.size ≤ k_) ∧ some k_ ≠ (v214 : Value).ownBlock ∧ k_ ≠ gb194 ∧ k_ ≠ gb206)) (by (with_reducible repeat (first | apply Kd.V_alloc | apply Kd.V_drewN | apply Kd.V_drew)); exact Kd.V_mono HO_0.out (fun _ hk => ⟨⟨hk.1.1.1, ⟨hk.2, ⟨hk.1.1.2.1, hk.1.1.2.2⟩⟩⟩, hk.1.2⟩)) hg hat)
                      have n1_ := Aside0.mk (Kd.V_afterv (ok := (fun k_ => ((P0_ k_ ∨ P2_2_ k_ ∨ P2_3_ k_) ∨ w.heap.size ≤ k_) ∧ some k_ ≠ (v214 : Value).ownBlock ∧ k_ ≠ gb194 ∧ k_ ≠ gb206)) (by (with_reducible repeat (first | apply Kd.V_alloc | apply Kd.V_drewN | apply Kd.V_drew)); exact Kd.V_mono HO_195002.out (fun _ hk => ⟨⟨hk.1.1.1, ⟨hk.2, ⟨hk.1.1.2.1, hk.1.1.2.2⟩⟩⟩, hk.1.2⟩)) hg hat)
                      have n2_ := Aside0.mk (Kd.V_afterv (ok := (fun k_ => ((P0_ k_ ∨ P2_2_ k_ ∨ P2_3_ k_) ∨ w.heap.size ≤ k_) ∧ some k_ ≠ (v214 : Value).ownBlock ∧ k_ ≠ gb194 ∧ k_ ≠ gb206)) (by (with_reducible repeat (first | apply Kd.V_alloc | apply Kd.V_drewN | apply Kd.V_drew)); exact Kd.V_mono HO_195003.out (fun _ hk => ⟨⟨hk.1.1.1, ⟨hk.2, ⟨hk.1.1.2.1, hk.1.1.2.2⟩⟩⟩, hk.1.2⟩)) hg hat)
                      have n3_ := Aside0.mk (blk_grown (g := gb194) (o := .cells #[.int .i64 a2_0, .string a2_1, .slice A2_2 l2_2.length c2_2, .slice A2_3 l2_3.length c2_3] 25 (0, 0)) (by (with_reducible repeat (first | refine blk_drewN ?_ _ | refine blk_drew ?_ | refine blk_alloc ?_ _)); exact BK194.out) hg (Kd.N_ne HO209.out BK194.out (by decide)))
                      have n4_ := Aside0.mk (Kd.V_afterv (ok := (fun k_ => ((P0_ k_ ∨ P2_2_ k_ ∨ P2_3_ k_) ∨ w.heap.size ≤ k_) ∧ some k_ ≠ (v214 : Value).ownBlock ∧ k_ ≠ gb194 ∧ k_ ≠ gb206)) (by (with_reducible repeat (first | apply Kd.V_alloc | apply Kd.V_drewN | apply Kd.V_drew)); exact Kd.V_mono HO200.out (fun _ hk => ⟨⟨hk.1.1.1, ⟨hk.2, ⟨hk.1.1.2.1, hk.1.1.2.2⟩⟩⟩, hk.1.2⟩)) hg hat)
                      have n5_ := Aside0.mk (Kd.V_afterv (ok := (fun k_ => ((P0_ k_ ∨ P2_2_ k_ ∨ P2_3_ k_) ∨ w.heap.size ≤ k_) ∧ some k_ ≠ (v214 : Value).ownBlock ∧ k_ ≠ gb194 ∧ k_ ≠ gb206)) (by (with_reducible repeat (first | apply Kd.V_alloc | apply Kd.V_drewN | apply Kd.V_drew)); exact Kd.V_mono HO203.out (fun _ hk => ⟨⟨hk.1.1.1, ⟨hk.2, ⟨hk.1.1.2.1, hk.1.1.2.2⟩⟩⟩, hk.1.2⟩)) hg hat)
                      have n6_ := Aside0.mk (blk_grown (g := gb206) (o := .cells #[.int .i64 t195, .int .i64 t196, .string t197, .slice Ao31 t198.length co31, .slice Ao32 t201.length co32, .int .i64 t204] 27 (0, 0)) (by (with_reducible repeat (first | refine blk_drewN ?_ _ | refine blk_drew ?_ | refine blk_alloc ?_ _)); exact BK206.out) hg (Kd.N_away HO209.out (fun _ hk => hk.1.2.2)))
                      have n7_ := Aside0.mk (Kd.N_afterv (ok := (fun k_ => ((P0_ k_ ∨ P2_2_ k_ ∨ P2_3_ k_) ∨ w.heap.size ≤ k_) ∧ k_ ≠ gb194 ∧ k_ ≠ gb206)) (by (with_reducible repeat (first | apply Kd.N_alloc | apply Kd.N_drewN | apply Kd.N_drew)); exact Kd.N_mono HO215.out (fun _ hk => ⟨⟨hk.1, ⟨hk.2.2.1, hk.2.2.2⟩⟩, hk.2.1⟩)) hg hat)
                      have n8_ := Aside0.mk (hb)
                      have n9_ := Aside0.mk (ho)
                      clear HO_0
                      clear HO_195002
                      clear HO_195003
                      clear BK194
                      clear HO200
                      clear HO203
                      clear BK206
                      clear HO215
                      clear HB
                      clear HO209
                      have HO_0 := n0_
                      have HO_195002 := n1_
                      have HO_195003 := n2_
                      have BK194 := n3_
                      have HO200 := n4_
                      have HO203 := n5_
                      have BK206 := n6_
                      have HO215 := n7_
                      have HB := n8_
                      have HO212 := n9_
                      clear n0_ n1_ n2_ n3_ n4_ n5_ n6_ n7_ n8_ n9_
                      clear ho hb hg hat
                      refine hK.out _ _ ⟨(blk_cell BK194.out 0).trans rfl, (blk_cell BK194.out 1).trans rfl, (blk_cell BK194.out 2).trans rfl, (blk_cell BK194.out 3).trans rfl⟩ (fun hHeld => ?_)
                      clear hK K
                      refine norm_ (a' := ?_) ?_ ?_
                      rotate_left
                      · show Act.put _ (some 33) _ = _
                        simp only [Act.put, List.setIfInBounds_toArray, List.set_cons_zero, List.set_cons_succ, i64_w, i32_w]
                        rfl
                      exact norm_ (by simp only [putAll, Act.put, List.setIfInBounds_toArray, List.set_cons_zero, List.set_cons_succ]) (hCont (v208, v211, v214) _ ⟨hHeld, (by (with_reducible repeat (first | apply Kd.V_alloc | apply Kd.V_drewN | apply Kd.V_drew)); exact Kd.V_mono HO200.out (fun _ hk => ⟨hk.1.1, ⟨hk.2, ⟨hk.1.2.1, ⟨hk.1.2.2.1, hk.1.2.2.2⟩⟩⟩⟩)), (by (with_reducible repeat (first | apply Kd.V_alloc | apply Kd.V_drewN | apply Kd.V_drew)); exact Kd.V_mono HO203.out (fun _ hk => ⟨hk.1.1, ⟨hk.2, ⟨hk.1.2.1, ⟨hk.1.2.2.1, hk.1.2.2.2⟩⟩⟩⟩)), (by (with_reducible repeat (first | apply Kd.N_alloc | apply Kd.N_drewN | apply Kd.N_drew)); exact HO212.out), (by (with_reducible repeat (first | apply Kd.N_alloc | apply Kd.N_drewN | apply Kd.N_drew)); exact Kd.N_mono HO215.out (fun _ hk => ⟨hk.1.1, ⟨hk.2, ⟨hk.1.2.1, hk.1.2.2⟩⟩⟩)), (by (with_reducible repeat (first | apply Kd.V_alloc | apply Kd.V_drewN | apply Kd.V_drew)); exact Kd.V_mono HO_0.out (fun _ hk => ⟨hk.1.1, ⟨hk.2, ⟨hk.1.2.1, ⟨hk.1.2.2.1, hk.1.2.2.2⟩⟩⟩⟩)), (by (with_reducible repeat (first | apply Kd.V_alloc | apply Kd.V_drewN | apply Kd.V_drew)); exact Kd.V_mono HO_195002.out (fun _ hk => ⟨hk.1.1, ⟨hk.2, ⟨hk.1.2.1, ⟨hk.1.2.2.1, hk.1.2.2.2⟩⟩⟩⟩)), (by (with_reducible repeat (first | apply Kd.V_alloc | apply Kd.V_drewN | apply Kd.V_drew)); exact Kd.V_mono HO_195003.out (fun _ hk => ⟨hk.1.1, ⟨hk.2, ⟨hk.1.2.1, ⟨hk.1.2.2.1, hk.1.2.2.2⟩⟩⟩⟩)), (by (with_reducible repeat (first | refine blk_drewN ?_ _ | refine blk_drew ?_ | refine blk_alloc ?_ _)); exact BK194.out), (by (with_reducible repeat (first | refine blk_drewN ?_ _ | refine blk_drew ?_ | refine blk_alloc ?_ _)); exact BK206.out), (by repeat (first | (with_reducible first | exact HB.out | apply below_alloc | apply pw_below_drewN | apply below_drew1 | refine below_set ?_ GE194.out | refine below_set ?_ GE206.out) | exact HB.out))⟩)
                  · skip
                    refine Kd.N_lit_step k27 _ 27 ?hg (N' := 38) ?hd (xs := ([(⟨a1, (⟨a2_0, a2_1, l2_2, l2_3⟩ : S25), a3⟩ : S27)] : List (S27))) (inner := [.int .i64 a1, .int .i64 a2_0, .string a2_1, .slice A2_2 l2_2.length c2_2, .slice A2_3 l2_3.length c2_3, .int .i64 a3]) (ok := (fun k_ => ((P0_ k_ ∨ P2_2_ k_ ∨ P2_3_ k_) ∨ w.heap.size ≤ k_) ∧ k_ ≠ gb194 ∧ k_ ≠ gb206)) (okp := (fun k_ => ((P0_ k_ ∨ P2_2_ k_ ∨ P2_3_ k_) ∨ w.heap.size ≤ k_) ∧ k_ ≠ gb194 ∧ k_ ≠ gb206)) ?hr ?hp (fun _ hk => hk) ((show ∀ k_, w34.heap.size ≤ k_ → (fun k_ => ((P0_ k_ ∨ P2_2_ k_ ∨ P2_3_ k_) ∨ w.heap.size ≤ k_) ∧ k_ ≠ gb194 ∧ k_ ≠ gb206) k_ from fun k_ hk => ⟨(.inr (Nat.le_trans (below_size (by repeat (first | (with_reducible first | exact HB.out | apply below_alloc | apply pw_below_drewN | apply below_drew1 | refine below_set ?_ GE194.out | refine below_set ?_ GE206.out) | exact HB.out))) hk)), Kd.freshB (g := gb194) (o := .cells #[.int .i64 a2_0, .string a2_1, .slice A2_2 l2_2.length c2_2, .slice A2_3 l2_3.length c2_3] 25 (0, 0)) (by (with_reducible repeat (first | refine blk_drewN ?_ _ | refine blk_drew ?_ | refine blk_alloc ?_ _)); exact BK194.out) k_ hk, Kd.freshB (g := gb206) (o := .cells #[.int .i64 t195, .int .i64 t196, .string t197, .slice Ao31 t198.length co31, .slice Ao32 t201.length co32, .int .i64 t204] 27 (0, 0)) (by (with_reducible repeat (first | refine blk_drewN ?_ _ | refine blk_drew ?_ | refine blk_alloc ?_ _)); exact BK206.out) k_ hk⟩) _ (Nat.le_refl _)) (Below.refl _ _) (Nat.le_refl _) (by simp) ?_; (case hd => rfl); (case hg => rfl); (case hr => first | (go_simp; done) | (go_simp; rfl)); (case hp => exact (Reps.c6 (show Kd.FK k27 _ _ (⟨a1, (⟨a2_0, a2_1, l2_2, l2_3⟩ : S25), a3⟩ : S27) [.int .i64 a1, .int .i64 a2_0, .string a2_1, .slice A2_2 l2_2.length c2_2, .slice A2_3 l2_3.length c2_3, .int .i64 a3] from (k27_mkF _ _ (⟨a1, (⟨a2_0, a2_1, l2_2, l2_3⟩ : S25), a3⟩ : S27) (Kd.V_reads' (Kd.V_mono (ok' := (fun k_ => ((P0_ k_ ∨ P2_2_ k_ ∨ P2_3_ k_) ∨ w.heap.size ≤ k_) ∧ k_ ≠ gb194 ∧ k_ ≠ gb206)) (HO_195002.out) (fun k_ hk => ⟨hk.1, ⟨hk.2.1, hk.2.2⟩⟩))).2.1 (Kd.V_F (Kd.V_mono (ok' := (fun k_ => ((P0_ k_ ∨ P2_2_ k_ ∨ P2_3_ k_) ∨ w.heap.size ≤ k_) ∧ k_ ≠ gb194 ∧ k_ ≠ gb206)) (HO_195002.out) (fun k_ hk => ⟨hk.1, ⟨hk.2.1, hk.2.2⟩⟩))) (Kd.V_reads' (Kd.V_mono (ok' := (fun k_ => ((P0_ k_ ∨ P2_2_ k_ ∨ P2_3_ k_) ∨ w.heap.size ≤ k_) ∧ k_ ≠ gb194 ∧ k_ ≠ gb206)) (HO_195003.out) (fun k_ hk => ⟨hk.1, ⟨hk.2.1, hk.2.2⟩⟩))).2.1 (Kd.V_F (Kd.V_mono (ok' := (fun k_ => ((P0_ k_ ∨ P2_2_ k_ ∨ P2_3_ k_) ∨ w.heap.size ≤ k_) ∧ k_ ≠ gb194 ∧ k_ ≠ gb206)) (HO_195003.out) (fun k_ hk => ⟨hk.1, ⟨hk.2.1, hk.2.2⟩⟩))))) (Reps.none _ _)))
                    intro v214 w35 ho36 hb hg_ hnew_
                    clear hg_ hnew_
                    (first | rw [← Ny213.out] at ho36 | (simp only [Int.reduceToNat] at ho36; rw [← Ny213.out] at ho36))
                    have n0_ := Aside0.mk (Kd.V_elder' (by (with_reducible repeat (first | apply Kd.V_alloc | apply Kd.V_drewN | apply Kd.V_drew)); exact HO_0.out) (Kd.N_base ho36) hb)
                    have n1_ := Aside0.mk (Kd.V_elder' (by (with_reducible repeat (first | apply Kd.V_alloc | apply Kd.V_drewN | apply Kd.V_drew)); exact HO_195002.out) (Kd.N_base ho36) hb)
                    have n2_ := Aside0.mk (Kd.V_elder' (by (with_reducible repeat (first | apply Kd.V_alloc | apply Kd.V_drewN | apply Kd.V_drew)); exact HO_195003.out) (Kd.N_base ho36) hb)
                    have n3_ := Aside0.mk (Kd.V_elder' (by (with_reducible repeat (first | apply Kd.V_alloc | apply Kd.V_drewN | apply Kd.V_drew)); exact HO200.out) (Kd.N_base ho36) hb)
                    have n4_ := Aside0.mk (Kd.V_elder' (by (with_reducible repeat (first | apply Kd.V_alloc | apply Kd.V_drewN | apply Kd.V_drew)); exact HO203.out) (Kd.N_base ho36) hb)
                    have n5_ := Aside0.mk (Kd.N_lower ho36 (below_size (by repeat (first | (with_reducible first | exact HB.out | apply below_alloc | apply pw_below_drewN | apply below_drew1 | refine below_set ?_ GE194.out | refine below_set ?_ GE206.out) | exact HB.out))))
                    have n6_ := Aside0.mk (blk_below (g := gb194) (o := .cells #[.int .i64 a2_0, .string a2_1, .slice A2_2 l2_2.length c2_2, .slice A2_3 l2_3.length c2_3] 25 (0, 0)) (by (with_reducible repeat (first | refine blk_drewN ?_ _ | refine blk_drew ?_ | refine blk_alloc ?_ _)); exact BK194.out) hb)
                    have n7_ := Aside0.mk (blk_below (g := gb206) (o := .cells #[.int .i64 t195, .int .i64 t196, .string t197, .slice Ao31 t198.length co31, .slice Ao32 t201.length co32, .int .i64 t204] 27 (0, 0)) (by (with_reducible repeat (first | refine blk_drewN ?_ _ | refine blk_drew ?_ | refine blk_alloc ?_ _)); exact BK206.out) hb)
                    have n8_ := Aside0.mk (below_step (by repeat (first | (with_reducible first | exact HB.out | apply below_alloc | apply pw_below_drewN | apply below_drew1 | refine below_set ?_ GE194.out | refine below_set ?_ GE206.out) | exact HB.out)) hb)
                    clear HO_0
                    clear HO_195002
                    clear HO_195003
                    clear HO200
                    clear HO203
                    clear BK194
                    clear BK206
                    clear HB
                    have HO_0 := n0_
                    have HO_195002 := n1_
                    have HO_195003 := n2_
                    have HO200 := n3_
                    have HO203 := n4_
                    have HO215 := n5_
                    have BK194 := n6_
                    have BK206 := n7_
                    have HB := n8_
                    clear n0_ n1_ n2_ n3_ n4_ n5_ n6_ n7_ n8_
                    clear hb ho36
                    refine hK.out _ _ ⟨(blk_cell BK194.out 0).trans rfl, (blk_cell BK194.out 1).trans rfl, (blk_cell BK194.out 2).trans rfl, (blk_cell BK194.out 3).trans rfl⟩ (fun hHeld => ?_)
                    clear hK K
                    refine norm_ (a' := ?_) ?_ ?_
                    rotate_left
                    · show Act.put _ (some 38) _ = _
                      simp only [Act.put, List.setIfInBounds_toArray, List.set_cons_zero, List.set_cons_succ, i64_w, i32_w]
                      rfl
                    refine one_ (i := 0) (N := some 31) #[true, true, false, true, true, true, true, true, false, false, false] rfl rfl (one_of HT_.out (by kernel_rfl)) (by decide) (fun K hK => ?_)
                    refine Kd.N_lit_step k27 _ 27 ?hg (N' := 31) ?hd (xs := ([] : List (S27))) (inner := []) (ok := (fun k_ => ((P0_ k_ ∨ P2_2_ k_ ∨ P2_3_ k_) ∨ w.heap.size ≤ k_) ∧ some k_ ≠ (v214 : Value).ownBlock ∧ k_ ≠ gb194 ∧ k_ ≠ gb206)) (okp := (fun k_ => ((P0_ k_ ∨ P2_2_ k_ ∨ P2_3_ k_) ∨ w.heap.size ≤ k_) ∧ some k_ ≠ (v214 : Value).ownBlock ∧ k_ ≠ gb194 ∧ k_ ≠ gb206)) ?hr ?hp (fun _ hk => hk) ((show ∀ k_, w35.heap.size ≤ k_ → (fun k_ => ((P0_ k_ ∨ P2_2_ k_ ∨ P2_3_ k_) ∨ w.heap.size ≤ k_) ∧ some k_ ≠ (v214 : Value).ownBlock ∧ k_ ≠ gb194 ∧ k_ ≠ gb206) k_ from fun k_ hk => ⟨(.inr (Nat.le_trans (below_size (by repeat (first | (with_reducible first | exact HB.out | apply below_alloc | apply pw_below_drewN | apply below_drew1 | refine below_set ?_ GE194.out | refine below_set ?_ GE206.out) | exact HB.out))) hk)), Kd.fresh' (Kd.N_lt (by (with_reducible repeat (first | apply Kd.N_alloc | apply Kd.N_drewN | apply Kd.N_drew)); exact HO215.out)) k_ hk, Kd.freshB (g := gb194) (o := .cells #[.int .i64 a2_0, .string a2_1, .slice A2_2 l2_2.length c2_2, .slice A2_3 l2_3.length c2_3] 25 (0, 0)) (by (with_reducible repeat (first | refine blk_drewN ?_ _ | refine blk_drew ?_ | refine blk_alloc ?_ _)); exact BK194.out) k_ hk, Kd.freshB (g := gb206) (o := .cells #[.int .i64 t195, .int .i64 t196, .string t197, .slice Ao31 t198.length co31, .slice Ao32 t201.length co32, .int .i64 t204] 27 (0, 0)) (by (with_reducible repeat (first | refine blk_drewN ?_ _ | refine blk_drew ?_ | refine blk_alloc ?_ _)); exact BK206.out) k_ hk⟩) _ (Nat.le_refl _)) (Below.refl _ _) (Nat.le_refl _) (by simp) ?_; (case hd => rfl); (case hg => rfl); (case hr => first | (go_simp; done) | (go_simp; rfl)); (case hp => exact (Reps.none _ _))
                    intro v208 w37 ho38 hb hg_ hnew_
                    clear hg_ hnew_
                    (first | rw [← Ny207.out] at ho38 | (simp only [Int.reduceToNat] at ho38; rw [← Ny207.out] at ho38))
                    have n0_ := Aside0.mk (Kd.V_elder' (by (with_reducible repeat (first | apply Kd.V_alloc | apply Kd.V_drewN | apply Kd.V_drew)); exact HO_0.out) (Kd.N_base ho38) hb)
                    have n1_ := Aside0.mk (Kd.V_elder' (by (with_reducible repeat (first | apply Kd.V_alloc | apply Kd.V_drewN | apply Kd.V_drew)); exact HO_195002.out) (Kd.N_base ho38) hb)
                    have n2_ := Aside0.mk (Kd.V_elder' (by (with_reducible repeat (first | apply Kd.V_alloc | apply Kd.V_drewN | apply Kd.V_drew)); exact HO_195003.out) (Kd.N_base ho38) hb)
                    have n3_ := Aside0.mk (Kd.V_elder' (by (with_reducible repeat (first | apply Kd.V_alloc | apply Kd.V_drewN | apply Kd.V_drew)); exact HO200.out) (Kd.N_base ho38) hb)
                    have n4_ := Aside0.mk (Kd.V_elder' (by (with_reducible repeat (first | apply Kd.V_alloc | apply Kd.V_drewN | apply Kd.V_drew)); exact HO203.out) (Kd.N_base ho38) hb)
                    have n5_ := Aside0.mk (Kd.N_elder' (by (with_reducible repeat (first | apply Kd.N_alloc | apply Kd.N_drewN | apply Kd.N_drew)); exact HO215.out) (Kd.N_base ho38) hb)
                    have n6_ := Aside0.mk (Kd.N_lower ho38 (below_size (by repeat (first | (with_reducible first | exact HB.out | apply below_alloc | apply pw_below_drewN | apply below_drew1 | refine below_set ?_ GE194.out | refine below_set ?_ GE206.out) | exact HB.out))))
                    have n7_ := Aside0.mk (blk_below (g := gb194) (o := .cells #[.int .i64 a2_0, .string a2_1, .slice A2_2 l2_2.length c2_2, .slice A2_3 l2_3.length c2_3] 25 (0, 0)) (by (with_reducible repeat (first | refine blk_drewN ?_ _ | refine blk_drew ?_ | refine blk_alloc ?_ _)); exact BK194.out) hb)
                    have n8_ := Aside0.mk (blk_below (g := gb206) (o := .cells #[.int .i64 t195, .int .i64 t196, .string t197, .slice Ao31 t198.length co31, .slice Ao32 t201.length co32, .int .i64 t204] 27 (0, 0)) (by (with_reducible repeat (first | refine blk_drewN ?_ _ | refine blk_drew ?_ | refine blk_alloc ?_ _)); exact BK206.out) hb)
                    have n9_ := Aside0.mk (below_step (by repeat (first | (with_reducible first | exact HB.out | apply below_alloc | apply pw_below_drewN | apply below_drew1 | refine below_set ?_ GE194.out | refine below_set ?_ GE206.out) | exact HB.out)) hb)
                    clear HO_0
                    clear HO_195002
                    clear HO_195003
                    clear HO200
                    clear HO203
                    clear HO215
                    clear BK194
                    clear BK206
                    clear HB
                    have HO_0 := n0_
                    have HO_195002 := n1_
                    have HO_195003 := n2_
                    have HO200 := n3_
                    have HO203 := n4_
                    have HO215 := n5_
                    have HO209 := n6_
                    have BK194 := n7_
                    have BK206 := n8_
                    have HB := n9_
                    clear n0_ n1_ n2_ n3_ n4_ n5_ n6_ n7_ n8_ n9_
                    clear hb ho38
                    refine hK.out _ _ ⟨(blk_cell BK194.out 0).trans rfl, (blk_cell BK194.out 1).trans rfl, (blk_cell BK194.out 2).trans rfl, (blk_cell BK194.out 3).trans rfl⟩ (fun hHeld => ?_)
                    clear hK K
                    refine norm_ (a' := ?_) ?_ ?_
                    rotate_left
                    · show Act.put _ (some 31) _ = _
                      simp only [Act.put, List.setIfInBounds_toArray, List.set_cons_zero, List.set_cons_succ, i64_w, i32_w]
                      rfl
                    refine one_ (i := 2) (N := some 33) #[true, true, true, true, true, true, true, true, false, false, false] rfl rfl (one_of HT_.out (by kernel_rfl)) (by decide) (fun K hK => ?_)
                    refine Kd.N_append_rows_step k27 (w0 := w) w.heap.size (by rfl) (.tmp 31) (.tmp 32) 22 27 (.agg #[(.int .i64 0), (.int .i64 0), (.string ⟨#[]⟩), (.slice none 0 0), (.slice none 0 0), (.int .i64 0)]) 88 rfl Tryd.underlying22 info27 rfl (by decide) (by omega) v208 y207 l0 _ _ _ (fun k_ => ((P0_ k_ ∨ P2_2_ k_ ∨ P2_3_ k_) ∨ w.heap.size ≤ k_) ∧ some k_ ≠ (v214 : Value).ownBlock ∧ k_ ≠ gb194 ∧ k_ ≠ gb206) (fun k_ => ((fun k_ => ((P0_ k_ ∨ P2_2_ k_ ∨ P2_3_ k_) ∨ w.heap.size ≤ k_) ∧ some k_ ≠ (v214 : Value).ownBlock ∧ k_ ≠ gb194 ∧ k_ ≠ gb206)) k_ ∧ some k_ ≠ (v208 : Value).ownBlock) rfl rfl ?aO ?aR (fun _ hk => hk) ?aF ?aB ?aS ?aL ?_
                    (case aR => exact (by skip; exact Kd.V_F (Kd.V_mono (ok' := (fun k_ => ((fun k_ => ((P0_ k_ ∨ P2_2_ k_ ∨ P2_3_ k_) ∨ w.heap.size ≤ k_) ∧ some k_ ≠ (v214 : Value).ownBlock ∧ k_ ≠ gb194 ∧ k_ ≠ gb206)) k_ ∧ some k_ ≠ (v208 : Value).ownBlock)) (HO_0.out) (fun k_ hk => ⟨⟨hk.1.1.1, ⟨hk.1.2, ⟨hk.1.1.2.1, hk.1.1.2.2⟩⟩⟩, hk.2⟩))))
                    (case aB => exact (by repeat (first | (with_reducible first | exact HB.out | apply below_alloc | apply pw_below_drewN | apply below_drew1 | refine below_set ?_ GE194.out | refine below_set ?_ GE206.out) | exact HB.out)))
                    (case aF => exact (fun k_ hk => ⟨(.inr (Nat.le_trans (below_size (by repeat (first | (with_reducible first | exact HB.out | apply below_alloc | apply pw_below_drewN | apply below_drew1 | refine below_set ?_ GE194.out | refine below_set ?_ GE206.out) | exact HB.out))) hk)), Kd.fresh' (Kd.N_lt (by (with_reducible repeat (first | apply Kd.N_alloc | apply Kd.N_drewN | apply Kd.N_drew)); exact HO215.out)) k_ hk, Kd.freshB (g := gb194) (o := .cells #[.int .i64 a2_0, .string a2_1, .slice A2_2 l2_2.length c2_2, .slice A2_3 l2_3.length c2_3] 25 (0, 0)) (by (with_reducible repeat (first | refine blk_drewN ?_ _ | refine blk_drew ?_ | refine blk_alloc ?_ _)); exact BK194.out) k_ hk, Kd.freshB (g := gb206) (o := .cells #[.int .i64 t195, .int .i64 t196, .string t197, .slice Ao31 t198.length co31, .slice Ao32 t201.length co32, .int .i64 t204] 27 (0, 0)) (by (with_reducible repeat (first | refine blk_drewN ?_ _ | refine blk_drew ?_ | refine blk_alloc ?_ _)); exact BK206.out) k_ hk⟩))
                    (case aO => exact (by (with_reducible repeat (first | apply Kd.N_alloc | apply Kd.N_drewN | apply Kd.N_drew)); exact HO209.out))
                    (case aS => exact (below_size (by repeat (first | (with_reducible first | exact HB.out | apply below_alloc | apply pw_below_drewN | apply below_drew1 | refine below_set ?_ GE194.out | refine below_set ?_ GE206.out) | exact HB.out))))
                    (case aL => have := LMc25.out; omega)
                    intro v211 w39 ho hb hg hat
                    rw [← Ny210.out] at ho
                    have n0_ := Aside0.mk (Kd.V_afterv (ok := (fun k_ => ((P0_ k_ ∨ P2_2_ k_ ∨ P2_3_ k_) ∨ w.heap.size ≤ k_) ∧ some k_ ≠ (v214 : Value).ownBlock ∧ k_ ≠ gb194 ∧ k_ ≠ gb206)) (by (with_reducible repeat (first | apply Kd.V_alloc | apply Kd.V_drewN | apply Kd.V_drew)); exact Kd.V_mono HO_0.out (fun _ hk => ⟨⟨hk.1.1.1, ⟨hk.1.2, ⟨hk.1.1.2.1, hk.1.1.2.2⟩⟩⟩, hk.2⟩)) hg hat)
                    have n1_ := Aside0.mk (Kd.V_afterv (ok := (fun k_ => ((P0_ k_ ∨ P2_2_ k_ ∨ P2_3_ k_) ∨ w.heap.size ≤ k_) ∧ some k_ ≠ (v214 : Value).ownBlock ∧ k_ ≠ gb194 ∧ k_ ≠ gb206)) (by (with_reducible repeat (first | apply Kd.V_alloc | apply Kd.V_drewN | apply Kd.V_drew)); exact Kd.V_mono HO_195002.out (fun _ hk => ⟨⟨hk.1.1.1, ⟨hk.1.2, ⟨hk.1.1.2.1, hk.1.1.2.2⟩⟩⟩, hk.2⟩)) hg hat)
                    have n2_ := Aside0.mk (Kd.V_afterv (ok := (fun k_ => ((P0_ k_ ∨ P2_2_ k_ ∨ P2_3_ k_) ∨ w.heap.size ≤ k_) ∧ some k_ ≠ (v214 : Value).ownBlock ∧ k_ ≠ gb194 ∧ k_ ≠ gb206)) (by (with_reducible repeat (first | apply Kd.V_alloc | apply Kd.V_drewN | apply Kd.V_drew)); exact Kd.V_mono HO_195003.out (fun _ hk => ⟨⟨hk.1.1.1, ⟨hk.1.2, ⟨hk.1.1.2.1, hk.1.1.2.2⟩⟩⟩, hk.2⟩)) hg hat)
                    have n3_ := Aside0.mk (blk_grown (g := gb194) (o := .cells #[.int .i64 a2_0, .string a2_1, .slice A2_2 l2_2.length c2_2, .slice A2_3 l2_3.length c2_3] 25 (0, 0)) (by (with_reducible repeat (first | refine blk_drewN ?_ _ | refine blk_drew ?_ | refine blk_alloc ?_ _)); exact BK194.out) hg (Kd.N_ne HO209.out BK194.out (by decide)))
                    have n4_ := Aside0.mk (Kd.V_afterv (ok := (fun k_ => ((P0_ k_ ∨ P2_2_ k_ ∨ P2_3_ k_) ∨ w.heap.size ≤ k_) ∧ some k_ ≠ (v214 : Value).ownBlock ∧ k_ ≠ gb194 ∧ k_ ≠ gb206)) (by (with_reducible repeat (first | apply Kd.V_alloc | apply Kd.V_drewN | apply Kd.V_drew)); exact Kd.V_mono HO200.out (fun _ hk => ⟨⟨hk.1.1.1, ⟨hk.1.2, ⟨hk.1.1.2.1, hk.1.1.2.2⟩⟩⟩, hk.2⟩)) hg hat)
                    have n5_ := Aside0.mk (Kd.V_afterv (ok := (fun k_ => ((P0_ k_ ∨ P2_2_ k_ ∨ P2_3_ k_) ∨ w.heap.size ≤ k_) ∧ some k_ ≠ (v214 : Value).ownBlock ∧ k_ ≠ gb194 ∧ k_ ≠ gb206)) (by (with_reducible repeat (first | apply Kd.V_alloc | apply Kd.V_drewN | apply Kd.V_drew)); exact Kd.V_mono HO203.out (fun _ hk => ⟨⟨hk.1.1.1, ⟨hk.1.2, ⟨hk.1.1.2.1, hk.1.1.2.2⟩⟩⟩, hk.2⟩)) hg hat)
                    have n6_ := Aside0.mk (blk_grown (g := gb206) (o := .cells #[.int .i64 t195, .int .i64 t196, .string t197, .slice Ao31 t198.length co31, .slice Ao32 t201.length co32, .int .i64 t204] 27 (0, 0)) (by (with_reducible repeat (first | refine blk_drewN ?_ _ | refine blk_drew ?_ | refine blk_alloc ?_ _)); exact BK206.out) hg (Kd.N_away HO209.out (fun _ hk => hk.2.2.2)))
                    have n7_ := Aside0.mk (Kd.N_afterv (ok := (fun k_ => ((P0_ k_ ∨ P2_2_ k_ ∨ P2_3_ k_) ∨ w.heap.size ≤ k_) ∧ k_ ≠ gb194 ∧ k_ ≠ gb206)) (by (with_reducible repeat (first | apply Kd.N_alloc | apply Kd.N_drewN | apply Kd.N_drew)); exact HO215.out) hg hat)
                    have n8_ := Aside0.mk (hb)
                    have n9_ := Aside0.mk (ho)
                    clear HO_0
                    clear HO_195002
                    clear HO_195003
                    clear BK194
                    clear HO200
                    clear HO203
                    clear BK206
                    clear HO215
                    clear HB
                    clear HO209
                    have HO_0 := n0_
                    have HO_195002 := n1_
                    have HO_195003 := n2_
                    have BK194 := n3_
                    have HO200 := n4_
                    have HO203 := n5_
                    have BK206 := n6_
                    have HO215 := n7_
                    have HB := n8_
                    have HO212 := n9_
                    clear n0_ n1_ n2_ n3_ n4_ n5_ n6_ n7_ n8_ n9_
                    clear ho hb hg hat
                    refine hK.out _ _ ⟨(blk_cell BK194.out 0).trans rfl, (blk_cell BK194.out 1).trans rfl, (blk_cell BK194.out 2).trans rfl, (blk_cell BK194.out 3).trans rfl⟩ (fun hHeld => ?_)
                    clear hK K
                    refine norm_ (a' := ?_) ?_ ?_
                    rotate_left
                    · show Act.put _ (some 33) _ = _
                      simp only [Act.put, List.setIfInBounds_toArray, List.set_cons_zero, List.set_cons_succ, i64_w, i32_w]
                      rfl
                    exact norm_ (by simp only [putAll, Act.put, List.setIfInBounds_toArray, List.set_cons_zero, List.set_cons_succ]) (hCont (v208, v211, v214) _ ⟨hHeld, (by (with_reducible repeat (first | apply Kd.V_alloc | apply Kd.V_drewN | apply Kd.V_drew)); exact Kd.V_mono HO200.out (fun _ hk => ⟨hk.1.1, ⟨hk.2, ⟨hk.1.2.1, ⟨hk.1.2.2.1, hk.1.2.2.2⟩⟩⟩⟩)), (by (with_reducible repeat (first | apply Kd.V_alloc | apply Kd.V_drewN | apply Kd.V_drew)); exact Kd.V_mono HO203.out (fun _ hk => ⟨hk.1.1, ⟨hk.2, ⟨hk.1.2.1, ⟨hk.1.2.2.1, hk.1.2.2.2⟩⟩⟩⟩)), (by (with_reducible repeat (first | apply Kd.N_alloc | apply Kd.N_drewN | apply Kd.N_drew)); exact HO212.out), (by (with_reducible repeat (first | apply Kd.N_alloc | apply Kd.N_drewN | apply Kd.N_drew)); exact Kd.N_mono HO215.out (fun _ hk => ⟨hk.1.1, ⟨hk.2, ⟨hk.1.2.1, hk.1.2.2⟩⟩⟩)), (by (with_reducible repeat (first | apply Kd.V_alloc | apply Kd.V_drewN | apply Kd.V_drew)); exact Kd.V_mono HO_0.out (fun _ hk => ⟨hk.1.1, ⟨hk.2, ⟨hk.1.2.1, ⟨hk.1.2.2.1, hk.1.2.2.2⟩⟩⟩⟩)), (by (with_reducible repeat (first | apply Kd.V_alloc | apply Kd.V_drewN | apply Kd.V_drew)); exact Kd.V_mono HO_195002.out (fun _ hk => ⟨hk.1.1, ⟨hk.2, ⟨hk.1.2.1, ⟨hk.1.2.2.1, hk.1.2.2.2⟩⟩⟩⟩)), (by (with_reducible repeat (first | apply Kd.V_alloc | apply Kd.V_drewN | apply Kd.V_drew)); exact Kd.V_mono HO_195003.out (fun _ hk => ⟨hk.1.1, ⟨hk.2, ⟨hk.1.2.1, ⟨hk.1.2.2.1, hk.1.2.2.2⟩⟩⟩⟩)), (by (with_reducible repeat (first | refine blk_drewN ?_ _ | refine blk_drew ?_ | refine blk_alloc ?_ _)); exact BK194.out), (by (with_reducible repeat (first | refine blk_drewN ?_ _ | refine blk_drew ?_ | refine blk_alloc ?_ _)); exact BK206.out), (by repeat (first | (with_reducible first | exact HB.out | apply below_alloc | apply pw_below_drewN | apply below_drew1 | refine below_set ?_ GE194.out | refine below_set ?_ GE206.out) | exact HB.out))⟩)
                rintro ⟨v208, v211, v214⟩ w40 ⟨hS_, h0_, h1_, h2_, h3_, h4_, h5_, h6_, h7_, h8_, h9_⟩
                have n0_ : Aside0 (Kd.V k37 37 w40 w.heap.size (fun k_ => ((P0_ k_ ∨ P2_2_ k_ ∨ P2_3_ k_) ∨ w.heap.size ≤ k_) ∧ some k_ ≠ (v211 : Value).ownBlock ∧ some k_ ≠ (v214 : Value).ownBlock ∧ k_ ≠ gb194 ∧ k_ ≠ gb206) (.slice Ao31 t198.length co31) t198) := ⟨h0_⟩
                have n1_ : Aside0 (Kd.V k37 37 w40 w.heap.size (fun k_ => ((P0_ k_ ∨ P2_2_ k_ ∨ P2_3_ k_) ∨ w.heap.size ≤ k_) ∧ some k_ ≠ (v211 : Value).ownBlock ∧ some k_ ≠ (v214 : Value).ownBlock ∧ k_ ≠ gb194 ∧ k_ ≠ gb206) (.slice Ao32 t201.length co32) t201) := ⟨h1_⟩
                have n2_ : Aside0 (Kd.N k27 27 w40 w.heap.size (fun k_ => ((P0_ k_ ∨ P2_2_ k_ ∨ P2_3_ k_) ∨ w.heap.size ≤ k_) ∧ some k_ ≠ (v214 : Value).ownBlock ∧ k_ ≠ gb194 ∧ k_ ≠ gb206) v211 y210) := ⟨h2_⟩
                have n3_ : Aside0 (Kd.N k27 27 w40 w.heap.size (fun k_ => ((P0_ k_ ∨ P2_2_ k_ ∨ P2_3_ k_) ∨ w.heap.size ≤ k_) ∧ some k_ ≠ (v211 : Value).ownBlock ∧ k_ ≠ gb194 ∧ k_ ≠ gb206) v214 y213) := ⟨h3_⟩
                have n4_ : Aside0 (Kd.V k27 27 w40 w.heap.size (fun k_ => ((P0_ k_ ∨ P2_2_ k_ ∨ P2_3_ k_) ∨ w.heap.size ≤ k_) ∧ some k_ ≠ (v211 : Value).ownBlock ∧ some k_ ≠ (v214 : Value).ownBlock ∧ k_ ≠ gb194 ∧ k_ ≠ gb206) (.slice A0 l0.length c0) l0) := ⟨h4_⟩
                have n5_ : Aside0 (Kd.V k37 37 w40 w.heap.size (fun k_ => ((P0_ k_ ∨ P2_2_ k_ ∨ P2_3_ k_) ∨ w.heap.size ≤ k_) ∧ some k_ ≠ (v211 : Value).ownBlock ∧ some k_ ≠ (v214 : Value).ownBlock ∧ k_ ≠ gb194 ∧ k_ ≠ gb206) (.slice A2_2 l2_2.length c2_2) l2_2) := ⟨h5_⟩
                have n6_ : Aside0 (Kd.V k37 37 w40 w.heap.size (fun k_ => ((P0_ k_ ∨ P2_2_ k_ ∨ P2_3_ k_) ∨ w.heap.size ≤ k_) ∧ some k_ ≠ (v211 : Value).ownBlock ∧ some k_ ≠ (v214 : Value).ownBlock ∧ k_ ≠ gb194 ∧ k_ ≠ gb206) (.slice A2_3 l2_3.length c2_3) l2_3) := ⟨h6_⟩
                have n7_ : Aside0 (w40.heap[gb194]? = some (.cells #[.int .i64 a2_0, .string a2_1, .slice A2_2 l2_2.length c2_2, .slice A2_3 l2_3.length c2_3] 25 (0, 0))) := ⟨h7_⟩
                have n8_ : Aside0 (w40.heap[gb206]? = some (.cells #[.int .i64 t195, .int .i64 t196, .string t197, .slice Ao31 t198.length co31, .slice Ao32 t201.length co32, .int .i64 t204] 27 (0, 0))) := ⟨h8_⟩
                have n9_ : Aside0 (Below w.heap.size w w40) := ⟨h9_⟩
                clear HO_0
                clear HO_195002
                clear HO_195003
                clear HO200
                clear HO203
                clear BK194
                clear BK206
                clear HB
                clear h0_ h1_ h2_ h3_ h4_ h5_ h6_ h7_ h8_ h9_
                have HO200 := n0_
                have HO203 := n1_
                have HO212 := n2_
                have HO215 := n3_
                have HO_0 := n4_
                have HO_195002 := n5_
                have HO_195003 := n6_
                have BK194 := n7_
                have BK206 := n8_
                have HB := n9_
                clear n0_ n1_ n2_ n3_ n4_ n5_ n6_ n7_ n8_ n9_
                have hHeld : w40.cell? ⟨gb194, 0, none⟩ = some (.int .i64 a2_0) ∧ w40.cell? ⟨gb194, 1, none⟩ = some (.string a2_1) ∧ w40.cell? ⟨gb194, 2, none⟩ = some (.slice A2_2 l2_2.length c2_2) ∧ w40.cell? ⟨gb194, 3, none⟩ = some (.slice A2_3 l2_3.length c2_3) := hS_
                obtain ⟨Ao42, co42, eo42⟩ := Kd.N_slice HO215.out
                (first | subst eo42 | (injection eo42 with f1_ f2_ f3_; have f4_ := f1_.symm; have f5_ := f3_.symm; clear f1_ f2_ f3_; subst f4_; subst f5_))
                refine norm_ (a' := ?_) ?_ ?_
                rotate_left
                · simp only [putAll, Act.put, List.setIfInBounds_toArray, List.set_cons_zero, List.set_cons_succ]
                  rfl
                refine one_ (i := 8) (N := some 39) #[true, true, true, true, true, true, true, true, true, false, false] rfl rfl (one_of HT_.out (by kernel_rfl)) (by decide) (fun K hK => ?_)
                refine Kd.N_append_rows_step k27 (w0 := w) w.heap.size (by rfl) (.tmp 33) (.tmp 38) 22 27 (.agg #[(.int .i64 0), (.int .i64 0), (.string ⟨#[]⟩), (.slice none 0 0), (.slice none 0 0), (.int .i64 0)]) 88 rfl Tryd.underlying22 info27 rfl (by decide) (by omega) v211 y210 y213 _ _ _ (fun k_ => ((P0_ k_ ∨ P2_2_ k_ ∨ P2_3_ k_) ∨ w.heap.size ≤ k_) ∧ k_ ≠ gb194 ∧ k_ ≠ gb206) (fun k_ => ((fun k_ => ((P0_ k_ ∨ P2_2_ k_ ∨ P2_3_ k_) ∨ w.heap.size ≤ k_) ∧ k_ ≠ gb194 ∧ k_ ≠ gb206)) k_ ∧ some k_ ≠ (v211 : Value).ownBlock) rfl rfl ?aO ?aR (fun _ hk => hk) ?aF ?aB ?aS ?aL ?_
                (case aR => exact (by skip; exact Kd.N_F (Kd.N_mono (ok' := (fun k_ => ((fun k_ => ((P0_ k_ ∨ P2_2_ k_ ∨ P2_3_ k_) ∨ w.heap.size ≤ k_) ∧ k_ ≠ gb194 ∧ k_ ≠ gb206)) k_ ∧ some k_ ≠ (v211 : Value).ownBlock)) (HO215.out) (fun k_ hk => ⟨⟨hk.1, ⟨hk.2.2.1, hk.2.2.2⟩⟩, hk.2.1⟩))))
                (case aB => exact (by repeat (first | (with_reducible first | exact HB.out | apply below_alloc | apply pw_below_drewN | apply below_drew1 | refine below_set ?_ GE194.out | refine below_set ?_ GE206.out) | exact HB.out)))
                (case aF => exact (fun k_ hk => ⟨(.inr (Nat.le_trans (below_size (by repeat (first | (with_reducible first | exact HB.out | apply below_alloc | apply pw_below_drewN | apply below_drew1 | refine below_set ?_ GE194.out | refine below_set ?_ GE206.out) | exact HB.out))) hk)), Kd.freshB (g := gb194) (o := .cells #[.int .i64 a2_0, .string a2_1, .slice A2_2 l2_2.length c2_2, .slice A2_3 l2_3.length c2_3] 25 (0, 0)) (by (with_reducible repeat (first | refine blk_drewN ?_ _ | refine blk_drew ?_ | refine blk_alloc ?_ _)); exact BK194.out) k_ hk, Kd.freshB (g := gb206) (o := .cells #[.int .i64 t195, .int .i64 t196, .string t197, .slice Ao31 t198.length co31, .slice Ao32 t201.length co32, .int .i64 t204] 27 (0, 0)) (by (with_reducible repeat (first | refine blk_drewN ?_ _ | refine blk_drew ?_ | refine blk_alloc ?_ _)); exact BK206.out) k_ hk⟩))
                (case aO => exact (by (with_reducible repeat (first | apply Kd.N_alloc | apply Kd.N_drewN | apply Kd.N_drew)); exact Kd.N_mono HO212.out (fun _ hk => ⟨hk.1, ⟨hk.2.2.1, hk.2.2.2⟩⟩)))
                (case aS => exact (below_size (by repeat (first | (with_reducible first | exact HB.out | apply below_alloc | apply pw_below_drewN | apply below_drew1 | refine below_set ?_ GE194.out | refine below_set ?_ GE206.out) | exact HB.out))))
                (case aL => have := LMc26.out; omega)
                intro v217 w41 ho hb hg hat
                rw [← Ny216.out] at ho
                have n0_ := Aside0.mk (Kd.V_afterv (ok := (fun k_ => ((P0_ k_ ∨ P2_2_ k_ ∨ P2_3_ k_) ∨ w.heap.size ≤ k_) ∧ some k_ ≠ (.slice Ao42 y213.length co42 : Value).ownBlock ∧ k_ ≠ gb194 ∧ k_ ≠ gb206)) (by (with_reducible repeat (first | apply Kd.V_alloc | apply Kd.V_drewN | apply Kd.V_drew)); exact Kd.V_mono HO_0.out (fun _ hk => ⟨⟨hk.1, ⟨hk.2.2.1, ⟨hk.2.2.2.1, hk.2.2.2.2⟩⟩⟩, hk.2.1⟩)) hg hat)
                have n1_ := Aside0.mk (Kd.V_afterv (ok := (fun k_ => ((P0_ k_ ∨ P2_2_ k_ ∨ P2_3_ k_) ∨ w.heap.size ≤ k_) ∧ some k_ ≠ (.slice Ao42 y213.length co42 : Value).ownBlock ∧ k_ ≠ gb194 ∧ k_ ≠ gb206)) (by (with_reducible repeat (first | apply Kd.V_alloc | apply Kd.V_drewN | apply Kd.V_drew)); exact Kd.V_mono HO_195002.out (fun _ hk => ⟨⟨hk.1, ⟨hk.2.2.1, ⟨hk.2.2.2.1, hk.2.2.2.2⟩⟩⟩, hk.2.1⟩)) hg hat)
                have n2_ := Aside0.mk (Kd.V_afterv (ok := (fun k_ => ((P0_ k_ ∨ P2_2_ k_ ∨ P2_3_ k_) ∨ w.heap.size ≤ k_) ∧ some k_ ≠ (.slice Ao42 y213.length co42 : Value).ownBlock ∧ k_ ≠ gb194 ∧ k_ ≠ gb206)) (by (with_reducible repeat (first | apply Kd.V_alloc | apply Kd.V_drewN | apply Kd.V_drew)); exact Kd.V_mono HO_195003.out (fun _ hk => ⟨⟨hk.1, ⟨hk.2.2.1, ⟨hk.2.2.2.1, hk.2.2.2.2⟩⟩⟩, hk.2.1⟩)) hg hat)
                have n3_ := Aside0.mk (blk_grown (g := gb194) (o := .cells #[.int .i64 a2_0, .string a2_1, .slice A2_2 l2_2.length c2_2, .slice A2_3 l2_3.length c2_3] 25 (0, 0)) (by (with_reducible repeat (first | refine blk_drewN ?_ _ | refine blk_drew ?_ | refine blk_alloc ?_ _)); exact BK194.out) hg (Kd.N_ne HO212.out BK194.out (by decide)))
                have n4_ := Aside0.mk (Kd.V_afterv (ok := (fun k_ => ((P0_ k_ ∨ P2_2_ k_ ∨ P2_3_ k_) ∨ w.heap.size ≤ k_) ∧ some k_ ≠ (.slice Ao42 y213.length co42 : Value).ownBlock ∧ k_ ≠ gb194 ∧ k_ ≠ gb206)) (by (with_reducible repeat (first | apply Kd.V_alloc | apply Kd.V_drewN | apply Kd.V_drew)); exact Kd.V_mono HO200.out (fun _ hk => ⟨⟨hk.1, ⟨hk.2.2.1, ⟨hk.2.2.2.1, hk.2.2.2.2⟩⟩⟩, hk.2.1⟩)) hg hat)
                have n5_ := Aside0.mk (Kd.V_afterv (ok := (fun k_ => ((P0_ k_ ∨ P2_2_ k_ ∨ P2_3_ k_) ∨ w.heap.size ≤ k_) ∧ some k_ ≠ (.slice Ao42 y213.length co42 : Value).ownBlock ∧ k_ ≠ gb194 ∧ k_ ≠ gb206)) (by (with_reducible repeat (first | apply Kd.V_alloc | apply Kd.V_drewN | apply Kd.V_drew)); exact Kd.V_mono HO203.out (fun _ hk => ⟨⟨hk.1, ⟨hk.2.2.1, ⟨hk.2.2.2.1, hk.2.2.2.2⟩⟩⟩, hk.2.1⟩)) hg hat)
                have n6_ := Aside0.mk (blk_grown (g := gb206) (o := .cells #[.int .i64 t195, .int .i64 t196, .string t197, .slice Ao31 t198.length co31, .slice Ao32 t201.length co32, .int .i64 t204] 27 (0, 0)) (by (with_reducible repeat (first | refine blk_drewN ?_ _ | refine blk_drew ?_ | refine blk_alloc ?_ _)); exact BK206.out) hg (Kd.N_away HO212.out (fun _ hk => hk.2.2.2)))
                have n7_ := Aside0.mk (Kd.N_afterv (ok := (fun k_ => ((P0_ k_ ∨ P2_2_ k_ ∨ P2_3_ k_) ∨ w.heap.size ≤ k_) ∧ k_ ≠ gb194 ∧ k_ ≠ gb206)) (by (with_reducible repeat (first | apply Kd.N_alloc | apply Kd.N_drewN | apply Kd.N_drew)); exact Kd.N_mono HO215.out (fun _ hk => ⟨⟨hk.1, ⟨hk.2.2.1, hk.2.2.2⟩⟩, hk.2.1⟩)) hg hat)
                have n8_ := Aside0.mk (hb)
                have n9_ := Aside0.mk (ho)
                clear HO_0
                clear HO_195002
                clear HO_195003
                clear BK194
                clear HO200
                clear HO203
                clear BK206
                clear HO215
                clear HB
                clear HO212
                have HO_0 := n0_
                have HO_195002 := n1_
                have HO_195003 := n2_
                have BK194 := n3_
                have HO200 := n4_
                have HO203 := n5_
                have BK206 := n6_
                have HO215 := n7_
                have HB := n8_
                have HO218 := n9_
                clear n0_ n1_ n2_ n3_ n4_ n5_ n6_ n7_ n8_ n9_
                clear ho hb hg hat
                refine hK.out _ _ ⟨(blk_cell BK194.out 0).trans rfl, (blk_cell BK194.out 1).trans rfl, (blk_cell BK194.out 2).trans rfl, (blk_cell BK194.out 3).trans rfl⟩ (fun hHeld => ?_)
                clear hK K
                refine norm_ (a' := ?_) ?_ ?_
                rotate_left
                · show Act.put _ (some 39) _ = _
                  simp only [Act.put, List.setIfInBounds_toArray, List.set_cons_zero, List.set_cons_succ, i64_w, i32_w]
                  rfl
                refine pure_ (i := 9) (N := some 10) (v := ?_) (a' := ?_) #[true, true, true, true, true, true, true, true, true, true, false] rfl rfl (any_of HT_.out (by kernel_rfl)) (fun _ _ _ h => h) (Or.inl ⟨by rfl, ?_⟩) ?_ ?_
                rotate_left
                · intro w'
                  go_simp
                  with_reducible rfl
                rotate_left
                · simp only [Act.put, List.setIfInBounds_toArray, List.set_cons_zero, List.set_cons_succ, i64_w, i32_w]
                  rfl
                refine pure_ (i := 10) (N := some 11) (v := ?_) (a' := ?_) #[true, true, true, true, true, true, true, true, true, true, true] rfl rfl (any_of HT_.out (by kernel_rfl)) (fun _ _ _ h => h) (Or.inl ⟨by rfl, ?_⟩) ?_ ?_
                rotate_left
                · intro w'
                  go_simp
                  with_reducible rfl
                rotate_left
                · simp only [Act.put, List.setIfInBounds_toArray, List.set_cons_zero, List.set_cons_succ, i64_w, i32_w]
                  rfl
                refine done_ (done_of HT_.out (by kernel_rfl)) ?_
                try go_wp2
                go_ret2
                exact ⟨_, by first | rfl | (simp [errW_none, errW_some] <;> rfl) | (simp [*, errW_none, errW_some] <;> rfl), by (with_reducible repeat (first | apply Kd.N_alloc | apply Kd.N_drewN | apply Kd.N_drew)); exact Kd.N_mono HO218.out (fun _ hk => hk.1), by repeat (first | (with_reducible first | exact HB.out | apply below_alloc | apply pw_below_drewN | apply below_drew1 | refine below_set ?_ GE194.out | refine below_set ?_ GE206.out) | exact HB.out)⟩
              · rw [if_neg c26] at H
                exact absurd H (by simp)
            · rw [if_neg c25] at H
              exact absurd H (by simp)
def dead_Drop.f (k : Nat) (l0 : List S27) (a1 : Int) : Option (List S27 × Int) := (dead_at.f l0 a1).bind fun i => if i < 0 then some (([] : List S27), (22 : Int)) else (dead_but.g k l0 (fun x => x.f0 == a1)).bind fun t => some (t, (0 : Int))
set_option maxHeartbeats 800000 in
theorem dead_Drop.calls (k : Nat) (A0 : Option Addr) (c0 : Nat) (l0 : List S27) (a1 : Int) (r1 : List S27) (r2 : Int) (w : World) (hr0 : Kd.C k27 w A0 l0.length l0) (hc0 : l0.length ≤ c0) (h : dead_Drop.f k l0 a1 = some (r1, r2)) :
    Calls Tryd.prog 15 #[.slice A0 l0.length c0, .int .i64 a1] w fun e w' => ∃ v0_ : Value, e = .returned (.tuple #[v0_, .int .i64 r2]) ∧ Kd.R k27 27 w' w.heap.size (fun _ => True) v0_ r1 ∧ Below w.heap.size w w' := by
  unfold dead_Drop.f at h
  obtain ⟨i, hi, h⟩ := Option.bind_eq_some_iff.1 h
  have HI := Aside0.mk hi
  have HR := Aside0.mk hr0
  have HC := Aside0.mk hc0
  clear hi hr0 hc0
  by_cases hn : i < 0
  · rw [if_pos hn] at h
    injection h with h
    injection h with h1 h2
    subst h1 h2
    have d0 : decide (i < 0) = true := decide_eq_true hn
    clear hn
    go_enter Tryd.func15, Tryd.ntmps15
    go_wp2_with (first | ((with_reducible refine gate_callee (f := 20) rfl ?_); refine goesL_ (some 8) rfl rfl Tryd.func20 (by kernel_rfl) rfl #[.slice A0 l0.length c0, .int .i64 a1] rfl (by (try simp only [List.map_toArray, List.map_cons, List.map_nil]); first | done | rfl) ?_; (with_reducible refine (dead_at.calls A0 c0 l0 a1 i _ (Kd.C_alloc HR.out _) HC.out HI.out).mono ?_); rintro e wn ⟨rfl, hb⟩; refine ⟨_, rfl, ?_⟩; have HB := Aside0.mk (below_step (below_alloc (Below.refl w.heap.size w) (.cells #[.int .i64 a1] 2)) hb); clear hb))
    go_ret2
    exact ⟨_, rfl, Kd.R_nil _ _ _ _ _, HB.out⟩
  · rw [if_neg hn] at h
    obtain ⟨t, ht, h⟩ := Option.bind_eq_some_iff.1 h
    injection h with h
    injection h with h1 h2
    subst h1 h2
    have HT := Aside0.mk ht
    have d0 : decide (i < 0) = false := decide_eq_false hn
    clear hn ht
    go_enter Tryd.func15, Tryd.ntmps15
    go_wp2_with (first | ((with_reducible refine gate_callee (f := 20) rfl ?_); refine goesL_ (some 8) rfl rfl Tryd.func20 (by kernel_rfl) rfl #[.slice A0 l0.length c0, .int .i64 a1] rfl (by (try simp only [List.map_toArray, List.map_cons, List.map_nil]); first | done | rfl) ?_; (with_reducible refine (dead_at.calls A0 c0 l0 a1 i _ (Kd.C_alloc HR.out _) HC.out HI.out).mono ?_); rintro e wn ⟨rfl, hb⟩; refine ⟨_, rfl, ?_⟩; have HB := Aside0.mk (below_step (below_alloc (Below.refl w.heap.size w) (.cells #[.int .i64 a1] 2)) hb); have HG := Aside0.mk (blk_below (blk_new w (.cells #[.int .i64 a1] 2)) hb); clear hb) | ((with_reducible refine gate_callee (f := 21) rfl ?_); refine goesL_ (some 12) rfl rfl Tryd.func21 (by kernel_rfl) rfl #[.slice A0 l0.length c0, .func (.func 24) #[] #[.pointer (some ⟨w.heap.size, 0, none⟩)]] rfl (by (try simp only [List.map_toArray, List.map_cons, List.map_nil]); first | done | rfl) ?_; (with_reducible refine (dead_but.gcalls 24 _ #[.pointer (some ⟨w.heap.size, 0, none⟩)] Tryd.func24 (by kernel_rfl) rfl k A0 c0 l0 _ t _ (dead_n_ok _ w.heap.size a1 HG.out) (Kd.C_below HR.out HB.out) HC.out HT.out).mono ?_); rintro e wm ⟨v0, rfl, hq, hb⟩; refine ⟨_, rfl, ?_⟩; have HQ := Aside0.mk (Kd.R_lower hq HB.out.size); have HB2 := Aside0.mk (below_step HB.out hb); clear hq hb))
    go_ret2
    exact ⟨_, rfl, HQ.out, HB2.out⟩
end Go.Proofs.YtknbebjphjpgpaaDoor.XD
namespace Go.Proofs.YtknbebjphjpgpaaDoor.XD
open Go.RowKit Go.Proofs.YtknbebjphjpgpaaDoorW.PrintWords Go.Proofs.YtknbebjphjpgpaaDoorW.PrintLast Go.Proofs.YtknbebjphjpgpaaDoorW.PrintMore
attribute [local go_sem] max2_int min2_int max_two min_two max_three min_three max_four min_four   -- for this text's walks alone
set_option linter.unusedVariables false
set_option linter.unusedSimpArgs false
def switchyardref19_Drop.l0 : Nat → List (S27) → Int → List (S27) → List (S27) → Int → Int → Option ((List (S27)) × Int)
  | 0, _, _, _, _, _, _ => none
  | k + 1, x0, x1, x6, x9, x10, x11 => if x11 < x10 then (if 0 ≤ x11 then (if x11 < (x9.length : Int) then (if ((rd_T27 x9 x11).f0) = x1 then (switchyardref19_Drop.l0 k x0 x1 x6 x9 x10 (wrap64 (x11 + 1))) else (if x6.length < 1599289640401 then (switchyardref19_Drop.l0 k x0 x1 (x6 ++ [(⟨(rd_T27 x9 x11).f0, (⟨(rd_T27 x9 x11).f1.f0, (rd_T27 x9 x11).f1.f1, (rd_T27 x9 x11).f1.f2, (rd_T27 x9 x11).f1.f3⟩ : S25), (rd_T27 x9 x11).f2⟩ : S27)]) x9 x10 (wrap64 (x11 + 1))) else (none))) else (none)) else (none)) else (if (x6.length : Int) = (x0.length : Int) then (some (([] : List (S27)), 22)) else (some (x6, 0)))
def switchyardref19_Drop.f (k : Nat) (l0 : List (S27)) (a1 : Int) : Option ((List (S27)) × Int) := switchyardref19_Drop.l0 k l0 a1 ([] : List (S27)) l0 (l0.length : Int) 0
set_option maxHeartbeats 600000 in
set_option maxRecDepth 100000 in
theorem switchyardref19_Drop.calls (k : Nat) (P0_ : Nat → Prop) (A0 : Option Addr) (c0 : Nat) (l0 : List (S27)) (a1 : Int) (r1 : List (S27)) (r2 : Int) (w : World) (hs0 : Kd.V k27 27 w w.heap.size (fun k_ => P0_ k_) (.slice A0 l0.length c0) l0) (h : switchyardref19_Drop.f k l0 a1 = some (r1, r2)) :
    Calls Tryd.prog 16 #[.slice A0 l0.length c0, .int .i64 a1] w fun e w' => ∃ v0_ : Value, e = .returned (.tuple #[v0_, .int .i64 r2]) ∧ Kd.N k27 27 w' w.heap.size (fun k_ => (P0_ k_ ∨ w.heap.size ≤ k_)) v0_ r1 ∧ Below w.heap.size w w' := by
  have hu27 := Tryd.underlying27
  have HO0 := Aside0.mk (show Kd.V k27 27 w w.heap.size (fun k_ => (P0_ k_ ∨ w.heap.size ≤ k_)) (.slice A0 l0.length c0) l0 from Kd.V_mono hs0 (fun k_ hk => .inl hk))
  have HB := Aside0.mk (Below.refl w.heap.size w)
  have H : (switchyardref19_Drop.l0 k l0 a1 ([] : List (S27)) l0 (l0.length : Int) 0) = some (r1, r2) := h
  clear h
  have H' := Aside0.mk H
  clear H
  go_enter Tryd.func16, Tryd.ntmps16
  go_wp2
  go_loopg [6, 11] k (fun kq v6 v11 w' => ∃ (x6_1 : List (S27)) (x11_1 : Int), v11 = .int .i64 x11_1 ∧ Aside0 (switchyardref19_Drop.l0 kq l0 a1 x6_1 l0 (l0.length : Int) x11_1 = some (r1, r2)) ∧ Aside0 (kq ≤ k) ∧ Aside0 (Kd.V k27 27 w' w.heap.size (fun k_ => (P0_ k_ ∨ w.heap.size ≤ k_) ∧ some k_ ≠ (v6 : Value).ownBlock) (.slice A0 l0.length c0) l0) ∧ Aside0 (Kd.N k27 27 w' w.heap.size (fun k_ => (P0_ k_ ∨ w.heap.size ≤ k_)) v6 x6_1) ∧ Aside0 (Kd.V k27 27 w' w.heap.size (fun k_ => (P0_ k_ ∨ w.heap.size ≤ k_) ∧ some k_ ≠ (v6 : Value).ownBlock) (.slice A0 l0.length c0) l0) ∧ Aside0 (Below w.heap.size w w'))
  case atStart => exact ⟨(([] : List (S27))), (0), (by first | rfl | (simp; done) | (simp [*]; done)), H', ⟨Nat.le_refl _⟩, ⟨by (with_reducible repeat (first | apply Kd.V_alloc | apply Kd.V_drewN | apply Kd.V_drew)); exact Kd.V_mono HO0.out (fun _ hk => ⟨hk, (by simp [Value.ownBlock])⟩)⟩, ⟨by first | exact Kd.R_nil _ _ _ _ _ | exact Kd.N_nil _ _ _ _ _ | exact Kd.V_nil _ _ _ _ _ | exact Kd.Q_nil _ _ _ _ _ | exact Kd.S_nil _ _ _ _ _⟩, ⟨by (with_reducible repeat (first | apply Kd.V_alloc | apply Kd.V_drewN | apply Kd.V_drew)); exact Kd.V_mono HO0.out (fun _ hk => ⟨hk, (by simp [Value.ownBlock])⟩)⟩, ⟨by repeat (first | (with_reducible first | exact HB.out | apply below_alloc | apply pw_below_drewN | apply below_drew1) | exact HB.out)⟩⟩
  case round =>
    clear H'
    try clear c1
    try clear p2
    obtain ⟨x6_1, x11_1, rfl, HA, HK1, HO_0, HO_6, HO_9, HB⟩ := hrel
    cases gk with
    | zero => exact absurd HA.out (by simp [switchyardref19_Drop.l0])
    | succ k1 =>
      have H := HA.out
      clear HA
      simp only [switchyardref19_Drop.l0] at H
      by_cases c3 : x11_1 < (l0.length : Int)
      · rw [if_pos c3] at H
        have c3b0 : decide (x11_1 < (l0.length : Int)) = true := decide_eq_true c3
        clear c3
        by_cases c4 : 0 ≤ x11_1
        · rw [if_pos c4] at H
          have c4b0 : decide (0 ≤ x11_1) = true := decide_eq_true c4
          clear c4
          by_cases c5 : x11_1 < (l0.length : Int)
          · rw [if_pos c5] at H
            have c5b0 : decide (x11_1 < (l0.length : Int)) = true := decide_eq_true c5
            clear c5
            by_cases c6 : ((rd_T27 l0 x11_1).f0) = a1
            · rw [if_pos c6] at H
              have c6b0 : (((rd_T27 l0 x11_1).f0) == a1) = true := beq_iff_eq.mpr c6
              have c6b1 : (((rd_T27 l0 x11_1).f0) != a1) = false := bne_eq_false_iff_eq.mpr c6
              clear c6
              have H' := Aside0.mk H
              clear H
              have p219 : 0 ≤ (x11_1 : Int) := of_decide_eq_true (by first | (with_reducible assumption) | assumption)
              have q219 : x11_1 < (l0.length : Int) := of_decide_eq_true (by first | (with_reducible assumption) | assumption)
              obtain ⟨ad219, A219_3, c219_3, A219_4, c219_4, e219, hx219_0, hx219_1, hx219_2, hx219_3, hx219_4, hx219_5, hl219_3, hi219_3, hl219_4, hi219_4⟩ := at_T27 (Kd.V_reads' HO_9.out).2.2 x11_1 p219 q219
              cases e219
              obtain ⟨ce219, hce219, hMe219, hcc219⟩ := Kd.V_get HO_9.out z27 x11_1 p219 (by first | exact q219 | exact of_decide_eq_true (by first | (with_reducible assumption) | assumption) | (have e_ := (Kd.V_reads' HO_9.out).1; omega))
              obtain ⟨ua219_3, uc219_3, ua219_4, uc219_4, rfl, ul219_3, ge219_3, ul219_4, ge219_4⟩ := k27_openF hMe219
              have hv219_3 := hcc219 3 _ rfl
              rw [add_field _ _ 3 (by omega)] at hv219_3
              replace hv219_3 := Option.some.inj (hv219_3.symm.trans hx219_3)
              injection hv219_3 with hva_ hvn_ hvc_
              rw [hva_] at ge219_3
              rw [hvc_] at ul219_3
              have HL219_3 := Aside0.mk (show Kd.V k37 37 _ w.heap.size _ _ ((rd_T27 l0 x11_1).f1.f2) from Kd.V_mk ul219_3 ge219_3)
              clear hva_ hvn_ hvc_ ge219_3 ul219_3
              have hv219_4 := hcc219 4 _ rfl
              rw [add_field _ _ 4 (by omega)] at hv219_4
              replace hv219_4 := Option.some.inj (hv219_4.symm.trans hx219_4)
              injection hv219_4 with hva_ hvn_ hvc_
              rw [hva_] at ge219_4
              rw [hvc_] at ul219_4
              have HL219_4 := Aside0.mk (show Kd.V k37 37 _ w.heap.size _ _ ((rd_T27 l0 x11_1).f1.f3) from Kd.V_mk ul219_4 ge219_4)
              clear hva_ hvn_ hvc_ ge219_4 ul219_4
              clear hcc219 hce219
              have HR219_3 := Aside0.mk hi219_3
              have HC219_3 := Aside0.mk hl219_3
              clear hi219_3 hl219_3
              have HR219_4 := Aside0.mk hi219_4
              have HC219_4 := Aside0.mk hl219_4
              clear hi219_4 hl219_4
              replace p219 := eq_true p219
              replace q219 := eq_true q219
              go_wp2_with (first | ((with_reducible refine gate_dst (N := 8) rfl ?_); refine box_event ?hg (N := 8) ?hd (cs := #[.int .i64 0, .int .i64 0, .string (⟨#[]⟩ : ByteArray), .slice none 0 0, .slice none 0 0, .int .i64 0]) (t := 27) ?hr ?_; (case hd => rfl); (case hg => rfl); (case hr => first | (go_simp; done) | (go_simp; rfl)); intro gb220 hg w7 hbox hb; have n0_ := Aside0.mk (Kd.V_below (Kd.V_elderB (by (with_reducible repeat (first | apply Kd.V_alloc | apply Kd.V_drewN | apply Kd.V_drew)); exact HO_0.out) gb220 (Nat.le_of_eq hg.symm)) hb); have n1_ := Aside0.mk (Kd.N_below (Kd.N_elderB (by (with_reducible repeat (first | apply Kd.N_alloc | apply Kd.N_drewN | apply Kd.N_drew)); exact HO_6.out) gb220 (Nat.le_of_eq hg.symm)) hb); have n2_ := Aside0.mk (Kd.V_below (Kd.V_elderB (by (with_reducible repeat (first | apply Kd.V_alloc | apply Kd.V_drewN | apply Kd.V_drew)); exact HO_9.out) gb220 (Nat.le_of_eq hg.symm)) hb); have n3_ := Aside0.mk (Kd.V_below (Kd.V_elderB (by (with_reducible repeat (first | apply Kd.V_alloc | apply Kd.V_drewN | apply Kd.V_drew)); exact HL219_3.out) gb220 (Nat.le_of_eq hg.symm)) hb); have n4_ := Aside0.mk (Kd.V_below (Kd.V_elderB (by (with_reducible repeat (first | apply Kd.V_alloc | apply Kd.V_drewN | apply Kd.V_drew)); exact HL219_4.out) gb220 (Nat.le_of_eq hg.symm)) hb); have n5_ := Aside0.mk (Kd.C_below (by repeat (first | (with_reducible exact HR219_3.out) | (with_reducible refine Kd.C_alloc ?_ _) | (with_reducible refine Kd.C_drewN ?_ _) | (with_reducible refine Kd.C_drew ?_) | exact HR219_3.out)) hb); have n6_ := Aside0.mk (Kd.C_below (by repeat (first | (with_reducible exact HR219_4.out) | (with_reducible refine Kd.C_alloc ?_ _) | (with_reducible refine Kd.C_drewN ?_ _) | (with_reducible refine Kd.C_drew ?_) | exact HR219_4.out)) hb); have n7_ := Aside0.mk (below_step (by repeat (first | (with_reducible first | exact HB.out | apply below_alloc | apply pw_below_drewN | apply below_drew1) | exact HB.out)) hb); have n8_ := Aside0.mk (hbox); have n9_ := Aside0.mk ((by rw [hg]; exact (below_size (by repeat (first | (with_reducible first | exact HB.out | apply below_alloc | apply pw_below_drewN | apply below_drew1) | exact HB.out))) : w.heap.size ≤ gb220)); have n10_ := Aside0.mk ((by rw [hg]; exact (below_size (by repeat (first | (with_reducible first | exact HB.out | apply below_alloc | apply pw_below_drewN | apply below_drew1) | exact HB.out))) : w.heap.size ≤ gb220)); clear HO_0; clear HO_6; clear HO_9; clear HL219_3; clear HL219_4; clear HR219_3; clear HR219_4; clear HB; have HO_0 := n0_; have HO_6 := n1_; have HO_9 := n2_; have HL219_3 := n3_; have HL219_4 := n4_; have HR219_3 := n5_; have HR219_4 := n6_; have HB := n7_; have BK220 := n8_; have GW220 := n9_; have GE220 := n10_; clear n0_ n1_ n2_ n3_ n4_ n5_ n6_ n7_ n8_ n9_ n10_; clear hb hbox hg; have hcz8_0 : w7.cell? ⟨gb220, 0, none⟩ = some (.int .i64 0) := (blk_cell BK220.out 0).trans rfl; have hcz8_1 : w7.cell? ⟨gb220, 1, none⟩ = some (.int .i64 0) := (blk_cell BK220.out 1).trans rfl; have hcz8_2 : w7.cell? ⟨gb220, 2, none⟩ = some (.string (⟨#[]⟩ : ByteArray)) := (blk_cell BK220.out 2).trans rfl; have hcz8_3 : w7.cell? ⟨gb220, 3, none⟩ = some (.slice none 0 0) := (blk_cell BK220.out 3).trans rfl; have hcz8_4 : w7.cell? ⟨gb220, 4, none⟩ = some (.slice none 0 0) := (blk_cell BK220.out 4).trans rfl; have hcz8_5 : w7.cell? ⟨gb220, 5, none⟩ = some (.int .i64 0) := (blk_cell BK220.out 5).trans rfl; have hfz8_0 := blk_frozen BK220.out 0; have hfz8_1 := blk_frozen BK220.out 1; have hfz8_2 := blk_frozen BK220.out 2; have hfz8_3 := blk_frozen BK220.out 3; have hfz8_4 := blk_frozen BK220.out 4; have hfz8_5 := blk_frozen BK220.out 5))
              go_roundg k1
              case measure => have := HK1.out; omega
              case rel => exact ⟨(x6_1), (wrap64 (x11_1 + 1)), (by first | rfl | (simp; done) | (simp [*]; done)), H', ⟨by have := HK1.out; omega⟩, ⟨by (with_reducible repeat (first | apply Kd.V_alloc | apply Kd.V_drewN | apply Kd.V_drew)); exact Kd.V_mono (Kd.V_far (p := ⟨gb220, 5, none⟩) (Kd.V_far (p := ⟨gb220, 4, none⟩) (Kd.V_far (p := ⟨gb220, 3, none⟩) (Kd.V_far (p := ⟨gb220, 2, none⟩) (Kd.V_far (p := ⟨gb220, 1, none⟩) (Kd.V_far (p := ⟨gb220, 0, none⟩) (Kd.V_mono HO_0.out (fun k_ hk => (⟨hk, hk.2⟩ : _ ∧ k_ ≠ gb220))) (fun _ hk => hk.2) (.int .i64 ((rd_T27 l0 x11_1).f0))) (fun _ hk => hk.2) (.int .i64 ((rd_T27 l0 x11_1).f1.f0))) (fun _ hk => hk.2) (.string ((rd_T27 l0 x11_1).f1.f1))) (fun _ hk => hk.2) (.slice A219_3 ((rd_T27 l0 x11_1).f1.f2).length c219_3)) (fun _ hk => hk.2) (.slice A219_4 ((rd_T27 l0 x11_1).f1.f3).length c219_4)) (fun _ hk => hk.2) (.int .i64 ((rd_T27 l0 x11_1).f2))) (fun _ hk => ⟨hk.1.1.1, hk.1.1.2⟩)⟩, ⟨by (with_reducible repeat (first | apply Kd.N_alloc | apply Kd.N_drewN | apply Kd.N_drew)); exact Kd.N_mono (Kd.N_far (p := ⟨gb220, 5, none⟩) (Kd.N_far (p := ⟨gb220, 4, none⟩) (Kd.N_far (p := ⟨gb220, 3, none⟩) (Kd.N_far (p := ⟨gb220, 2, none⟩) (Kd.N_far (p := ⟨gb220, 1, none⟩) (Kd.N_far (p := ⟨gb220, 0, none⟩) (Kd.N_mono HO_6.out (fun k_ hk => (⟨hk, hk.2⟩ : _ ∧ k_ ≠ gb220))) (fun _ hk => hk.2) (.int .i64 ((rd_T27 l0 x11_1).f0))) (fun _ hk => hk.2) (.int .i64 ((rd_T27 l0 x11_1).f1.f0))) (fun _ hk => hk.2) (.string ((rd_T27 l0 x11_1).f1.f1))) (fun _ hk => hk.2) (.slice A219_3 ((rd_T27 l0 x11_1).f1.f2).length c219_3)) (fun _ hk => hk.2) (.slice A219_4 ((rd_T27 l0 x11_1).f1.f3).length c219_4)) (fun _ hk => hk.2) (.int .i64 ((rd_T27 l0 x11_1).f2))) (fun _ hk => hk.1.1)⟩, ⟨by (with_reducible repeat (first | apply Kd.V_alloc | apply Kd.V_drewN | apply Kd.V_drew)); exact Kd.V_mono (Kd.V_far (p := ⟨gb220, 5, none⟩) (Kd.V_far (p := ⟨gb220, 4, none⟩) (Kd.V_far (p := ⟨gb220, 3, none⟩) (Kd.V_far (p := ⟨gb220, 2, none⟩) (Kd.V_far (p := ⟨gb220, 1, none⟩) (Kd.V_far (p := ⟨gb220, 0, none⟩) (Kd.V_mono HO_9.out (fun k_ hk => (⟨hk, hk.2⟩ : _ ∧ k_ ≠ gb220))) (fun _ hk => hk.2) (.int .i64 ((rd_T27 l0 x11_1).f0))) (fun _ hk => hk.2) (.int .i64 ((rd_T27 l0 x11_1).f1.f0))) (fun _ hk => hk.2) (.string ((rd_T27 l0 x11_1).f1.f1))) (fun _ hk => hk.2) (.slice A219_3 ((rd_T27 l0 x11_1).f1.f2).length c219_3)) (fun _ hk => hk.2) (.slice A219_4 ((rd_T27 l0 x11_1).f1.f3).length c219_4)) (fun _ hk => hk.2) (.int .i64 ((rd_T27 l0 x11_1).f2))) (fun _ hk => ⟨hk.1.1.1, hk.1.1.2⟩)⟩, ⟨by repeat (first | (with_reducible first | exact HB.out | apply below_alloc | apply pw_below_drewN | apply below_drew1 | refine below_set ?_ GE220.out) | exact HB.out)⟩⟩
            · rw [if_neg c6] at H
              have c6b0 : (((rd_T27 l0 x11_1).f0) == a1) = false := beq_eq_false_iff_ne.mpr c6
              have c6b1 : (((rd_T27 l0 x11_1).f0) != a1) = true := bne_iff_ne.mpr c6
              by_cases c9 : x6_1.length < 1599289640401
              · rw [if_pos c9] at H
                have LMc9 := Aside0.mk c9
                clear c9
                obtain ⟨y221, hy221⟩ : ∃ y_ : List (S27), y_ = (x6_1 ++ [(⟨(rd_T27 l0 x11_1).f0, (⟨(rd_T27 l0 x11_1).f1.f0, (rd_T27 l0 x11_1).f1.f1, (rd_T27 l0 x11_1).f1.f2, (rd_T27 l0 x11_1).f1.f3⟩ : S25), (rd_T27 l0 x11_1).f2⟩ : S27)]) := ⟨_, rfl⟩
                replace H : (switchyardref19_Drop.l0 k1 l0 a1 y221 l0 (l0.length : Int) (wrap64 (x11_1 + 1))) = some (r1, r2) := by first | (rw [hy221]; with_reducible exact H) | (have H2_ := (Option.bind_some _ _).symm.trans H; rw [hy221]; with_reducible exact H2_) | (have H2_ := (Option.bind_some _ _).symm.trans H; with_reducible exact H2_) | with_reducible exact H | (rw [hy221]; exact H) | exact H
                have Ny221 := Aside0.mk hy221
                clear hy221
                have H' := Aside0.mk H
                clear H
                have p219 : 0 ≤ (x11_1 : Int) := of_decide_eq_true (by first | (with_reducible assumption) | assumption)
                have q219 : x11_1 < (l0.length : Int) := of_decide_eq_true (by first | (with_reducible assumption) | assumption)
                obtain ⟨ad219, A219_3, c219_3, A219_4, c219_4, e219, hx219_0, hx219_1, hx219_2, hx219_3, hx219_4, hx219_5, hl219_3, hi219_3, hl219_4, hi219_4⟩ := at_T27 (Kd.V_reads' HO_9.out).2.2 x11_1 p219 q219
                cases e219
                obtain ⟨ce219, hce219, hMe219, hcc219⟩ := Kd.V_get HO_9.out z27 x11_1 p219 (by first | exact q219 | exact of_decide_eq_true (by first | (with_reducible assumption) | assumption) | (have e_ := (Kd.V_reads' HO_9.out).1; omega))
                obtain ⟨ua219_3, uc219_3, ua219_4, uc219_4, rfl, ul219_3, ge219_3, ul219_4, ge219_4⟩ := k27_openF hMe219
                have hv219_3 := hcc219 3 _ rfl
                rw [add_field _ _ 3 (by omega)] at hv219_3
                replace hv219_3 := Option.some.inj (hv219_3.symm.trans hx219_3)
                injection hv219_3 with hva_ hvn_ hvc_
                rw [hva_] at ge219_3
                rw [hvc_] at ul219_3
                have HL219_3 := Aside0.mk (show Kd.V k37 37 _ w.heap.size _ _ ((rd_T27 l0 x11_1).f1.f2) from Kd.V_mk ul219_3 ge219_3)
                clear hva_ hvn_ hvc_ ge219_3 ul219_3
                have hv219_4 := hcc219 4 _ rfl
                rw [add_field _ _ 4 (by omega)] at hv219_4
                replace hv219_4 := Option.some.inj (hv219_4.symm.trans hx219_4)
                injection hv219_4 with hva_ hvn_ hvc_
                rw [hva_] at ge219_4
                rw [hvc_] at ul219_4
                have HL219_4 := Aside0.mk (show Kd.V k37 37 _ w.heap.size _ _ ((rd_T27 l0 x11_1).f1.f3) from Kd.V_mk ul219_4 ge219_4)
                clear hva_ hvn_ hvc_ ge219_4 ul219_4
                clear hcc219 hce219
                have HR219_3 := Aside0.mk hi219_3
                have HC219_3 := Aside0.mk hl219_3
                clear hi219_3 hl219_3
                have HR219_4 := Aside0.mk hi219_4
                have HC219_4 := Aside0.mk hl219_4
                clear hi219_4 hl219_4
                replace p219 := eq_true p219
                replace q219 := eq_true q219
                go_wp2_with (first | ((with_reducible refine gate_dst (N := 8) rfl ?_); refine box_event ?hg (N := 8) ?hd (cs := #[.int .i64 0, .int .i64 0, .string (⟨#[]⟩ : ByteArray), .slice none 0 0, .slice none 0 0, .int .i64 0]) (t := 27) ?hr ?_; (case hd => rfl); (case hg => rfl); (case hr => first | (go_simp; done) | (go_simp; rfl)); intro gb220 hg w10 hbox hb; have n0_ := Aside0.mk (Kd.V_below (Kd.V_elderB (by (with_reducible repeat (first | apply Kd.V_alloc | apply Kd.V_drewN | apply Kd.V_drew)); exact HO_0.out) gb220 (Nat.le_of_eq hg.symm)) hb); have n1_ := Aside0.mk (Kd.N_below (Kd.N_elderB (by (with_reducible repeat (first | apply Kd.N_alloc | apply Kd.N_drewN | apply Kd.N_drew)); exact HO_6.out) gb220 (Nat.le_of_eq hg.symm)) hb); have n2_ := Aside0.mk (Kd.V_below (Kd.V_elderB (by (with_reducible repeat (first | apply Kd.V_alloc | apply Kd.V_drewN | apply Kd.V_drew)); exact HO_9.out) gb220 (Nat.le_of_eq hg.symm)) hb); have n3_ := Aside0.mk (Kd.V_below (Kd.V_elderB (by (with_reducible repeat (first | apply Kd.V_alloc | apply Kd.V_drewN | apply Kd.V_drew)); exact HL219_3.out) gb220 (Nat.le_of_eq hg.symm)) hb); have n4_ := Aside0.mk (Kd.V_below (Kd.V_elderB (by (with_reducible repeat (first | apply Kd.V_alloc | apply Kd.V_drewN | apply Kd.V_drew)); exact HL219_4.out) gb220 (Nat.le_of_eq hg.symm)) hb); have n5_ := Aside0.mk (Kd.C_below (by repeat (first | (with_reducible exact HR219_3.out) | (with_reducible refine Kd.C_alloc ?_ _) | (with_reducible refine Kd.C_drewN ?_ _) | (with_reducible refine Kd.C_drew ?_) | exact HR219_3.out)) hb); have n6_ := Aside0.mk (Kd.C_below (by repeat (first | (with_reducible exact HR219_4.out) | (with_reducible refine Kd.C_alloc ?_ _) | (with_reducible refine Kd.C_drewN ?_ _) | (with_reducible refine Kd.C_drew ?_) | exact HR219_4.out)) hb); have n7_ := Aside0.mk (below_step (by repeat (first | (with_reducible first | exact HB.out | apply below_alloc | apply pw_below_drewN | apply below_drew1) | exact HB.out)) hb); have n8_ := Aside0.mk (hbox); have n9_ := Aside0.mk ((by rw [hg]; exact (below_size (by repeat (first | (with_reducible first | exact HB.out | apply below_alloc | apply pw_below_drewN | apply below_drew1) | exact HB.out))) : w.heap.size ≤ gb220)); have n10_ := Aside0.mk ((by rw [hg]; exact (below_size (by repeat (first | (with_reducible first | exact HB.out | apply below_alloc | apply pw_below_drewN | apply below_drew1) | exact HB.out))) : w.heap.size ≤ gb220)); clear HO_0; clear HO_6; clear HO_9; clear HL219_3; clear HL219_4; clear HR219_3; clear HR219_4; clear HB; have HO_0 := n0_; have HO_6 := n1_; have HO_9 := n2_; have HL219_3 := n3_; have HL219_4 := n4_; have HR219_3 := n5_; have HR219_4 := n6_; have HB := n7_; have BK220 := n8_; have GW220 := n9_; have GE220 := n10_; clear n0_ n1_ n2_ n3_ n4_ n5_ n6_ n7_ n8_ n9_ n10_; clear hb hbox hg; have hcz11_0 : w10.cell? ⟨gb220, 0, none⟩ = some (.int .i64 0) := (blk_cell BK220.out 0).trans rfl; have hcz11_1 : w10.cell? ⟨gb220, 1, none⟩ = some (.int .i64 0) := (blk_cell BK220.out 1).trans rfl; have hcz11_2 : w10.cell? ⟨gb220, 2, none⟩ = some (.string (⟨#[]⟩ : ByteArray)) := (blk_cell BK220.out 2).trans rfl; have hcz11_3 : w10.cell? ⟨gb220, 3, none⟩ = some (.slice none 0 0) := (blk_cell BK220.out 3).trans rfl; have hcz11_4 : w10.cell? ⟨gb220, 4, none⟩ = some (.slice none 0 0) := (blk_cell BK220.out 4).trans rfl; have hcz11_5 : w10.cell? ⟨gb220, 5, none⟩ = some (.int .i64 0) := (blk_cell BK220.out 5).trans rfl; have hfz11_0 := blk_frozen BK220.out 0; have hfz11_1 := blk_frozen BK220.out 1; have hfz11_2 := blk_frozen BK220.out 2; have hfz11_3 := blk_frozen BK220.out 3; have hfz11_4 := blk_frozen BK220.out 4; have hfz11_5 := blk_frozen BK220.out 5) | ((with_reducible refine gate_store (t := 27) (p := 8) rfl ?_); refine store_event (t := 27) (p := 8) (v := ?vo_w12) (w1 := ((((((w10.setCell ⟨gb220, 0, none⟩ (.int .i64 ((rd_T27 l0 x11_1).f0))).setCell ⟨gb220, 1, none⟩ (.int .i64 ((rd_T27 l0 x11_1).f1.f0))).setCell ⟨gb220, 2, none⟩ (.string ((rd_T27 l0 x11_1).f1.f1))).setCell ⟨gb220, 3, none⟩ (.slice A219_3 ((rd_T27 l0 x11_1).f1.f2).length c219_3)).setCell ⟨gb220, 4, none⟩ (.slice A219_4 ((rd_T27 l0 x11_1).f1.f3).length c219_4)).setCell ⟨gb220, 5, none⟩ (.int .i64 ((rd_T27 l0 x11_1).f2)))) ?hg ?ho ?hn ?hr ?_; (case ho => rfl); (case hg => rfl); (case hn => rfl); (case hr => first | (go_simp; done) | (go_simp; rfl)); intro w12 hw; have n0_ : Aside0 (Kd.V k27 27 w12 w.heap.size (fun k_ => (P0_ k_ ∨ w.heap.size ≤ k_) ∧ some k_ ≠ (u6 : Value).ownBlock ∧ k_ ≠ gb220) (.slice (some ad219) l0.length c0) l0) := ⟨(by rw [hw]; exact (by (with_reducible repeat (first | apply Kd.V_alloc | apply Kd.V_drewN | apply Kd.V_drew)); exact Kd.V_mono (Kd.V_far (p := ⟨gb220, 5, none⟩) (Kd.V_far (p := ⟨gb220, 4, none⟩) (Kd.V_far (p := ⟨gb220, 3, none⟩) (Kd.V_far (p := ⟨gb220, 2, none⟩) (Kd.V_far (p := ⟨gb220, 1, none⟩) (Kd.V_far (p := ⟨gb220, 0, none⟩) (Kd.V_mono HO_0.out (fun k_ hk => (⟨hk, hk.2⟩ : _ ∧ k_ ≠ gb220))) (fun _ hk => hk.2) (.int .i64 ((rd_T27 l0 x11_1).f0))) (fun _ hk => hk.2) (.int .i64 ((rd_T27 l0 x11_1).f1.f0))) (fun _ hk => hk.2) (.string ((rd_T27 l0 x11_1).f1.f1))) (fun _ hk => hk.2) (.slice A219_3 ((rd_T27 l0 x11_1).f1.f2).length c219_3)) (fun _ hk => hk.2) (.slice A219_4 ((rd_T27 l0 x11_1).f1.f3).length c219_4)) (fun _ hk => hk.2) (.int .i64 ((rd_T27 l0 x11_1).f2))) (fun _ hk => ⟨hk.1.1.1, ⟨hk.1.1.2, hk.1.2⟩⟩)))⟩; have n1_ : Aside0 (Kd.N k27 27 w12 w.heap.size (fun k_ => (P0_ k_ ∨ w.heap.size ≤ k_) ∧ k_ ≠ gb220) u6 x6_1) := ⟨(by rw [hw]; exact (by (with_reducible repeat (first | apply Kd.N_alloc | apply Kd.N_drewN | apply Kd.N_drew)); exact Kd.N_mono (Kd.N_far (p := ⟨gb220, 5, none⟩) (Kd.N_far (p := ⟨gb220, 4, none⟩) (Kd.N_far (p := ⟨gb220, 3, none⟩) (Kd.N_far (p := ⟨gb220, 2, none⟩) (Kd.N_far (p := ⟨gb220, 1, none⟩) (Kd.N_far (p := ⟨gb220, 0, none⟩) (Kd.N_mono HO_6.out (fun k_ hk => (⟨hk, hk.2⟩ : _ ∧ k_ ≠ gb220))) (fun _ hk => hk.2) (.int .i64 ((rd_T27 l0 x11_1).f0))) (fun _ hk => hk.2) (.int .i64 ((rd_T27 l0 x11_1).f1.f0))) (fun _ hk => hk.2) (.string ((rd_T27 l0 x11_1).f1.f1))) (fun _ hk => hk.2) (.slice A219_3 ((rd_T27 l0 x11_1).f1.f2).length c219_3)) (fun _ hk => hk.2) (.slice A219_4 ((rd_T27 l0 x11_1).f1.f3).length c219_4)) (fun _ hk => hk.2) (.int .i64 ((rd_T27 l0 x11_1).f2))) (fun _ hk => ⟨hk.1.1, hk.1.2⟩)))⟩; have n2_ : Aside0 (Kd.V k27 27 w12 w.heap.size (fun k_ => (P0_ k_ ∨ w.heap.size ≤ k_) ∧ some k_ ≠ (u6 : Value).ownBlock ∧ k_ ≠ gb220) (.slice (some ad219) l0.length c0) l0) := ⟨(by rw [hw]; exact (by (with_reducible repeat (first | apply Kd.V_alloc | apply Kd.V_drewN | apply Kd.V_drew)); exact Kd.V_mono (Kd.V_far (p := ⟨gb220, 5, none⟩) (Kd.V_far (p := ⟨gb220, 4, none⟩) (Kd.V_far (p := ⟨gb220, 3, none⟩) (Kd.V_far (p := ⟨gb220, 2, none⟩) (Kd.V_far (p := ⟨gb220, 1, none⟩) (Kd.V_far (p := ⟨gb220, 0, none⟩) (Kd.V_mono HO_9.out (fun k_ hk => (⟨hk, hk.2⟩ : _ ∧ k_ ≠ gb220))) (fun _ hk => hk.2) (.int .i64 ((rd_T27 l0 x11_1).f0))) (fun _ hk => hk.2) (.int .i64 ((rd_T27 l0 x11_1).f1.f0))) (fun _ hk => hk.2) (.string ((rd_T27 l0 x11_1).f1.f1))) (fun _ hk => hk.2) (.slice A219_3 ((rd_T27 l0 x11_1).f1.f2).length c219_3)) (fun _ hk => hk.2) (.slice A219_4 ((rd_T27 l0 x11_1).f1.f3).length c219_4)) (fun _ hk => hk.2) (.int .i64 ((rd_T27 l0 x11_1).f2))) (fun _ hk => ⟨hk.1.1.1, ⟨hk.1.1.2, hk.1.2⟩⟩)))⟩; have n3_ : Aside0 (Kd.V k37 37 w12 w.heap.size (fun k_ => (P0_ k_ ∨ w.heap.size ≤ k_) ∧ some k_ ≠ (u6 : Value).ownBlock ∧ k_ ≠ gb220) (.slice A219_3 ((rd_T27 l0 x11_1).f1.f2).length c219_3) ((rd_T27 l0 x11_1).f1.f2)) := ⟨(by rw [hw]; exact (by (with_reducible repeat (first | apply Kd.V_alloc | apply Kd.V_drewN | apply Kd.V_drew)); exact Kd.V_mono (Kd.V_far (p := ⟨gb220, 5, none⟩) (Kd.V_far (p := ⟨gb220, 4, none⟩) (Kd.V_far (p := ⟨gb220, 3, none⟩) (Kd.V_far (p := ⟨gb220, 2, none⟩) (Kd.V_far (p := ⟨gb220, 1, none⟩) (Kd.V_far (p := ⟨gb220, 0, none⟩) (Kd.V_mono HL219_3.out (fun k_ hk => (⟨hk, hk.2⟩ : _ ∧ k_ ≠ gb220))) (fun _ hk => hk.2) (.int .i64 ((rd_T27 l0 x11_1).f0))) (fun _ hk => hk.2) (.int .i64 ((rd_T27 l0 x11_1).f1.f0))) (fun _ hk => hk.2) (.string ((rd_T27 l0 x11_1).f1.f1))) (fun _ hk => hk.2) (.slice A219_3 ((rd_T27 l0 x11_1).f1.f2).length c219_3)) (fun _ hk => hk.2) (.slice A219_4 ((rd_T27 l0 x11_1).f1.f3).length c219_4)) (fun _ hk => hk.2) (.int .i64 ((rd_T27 l0 x11_1).f2))) (fun _ hk => ⟨hk.1.1.1, ⟨hk.1.1.2, hk.1.2⟩⟩)))⟩; have n4_ : Aside0 (Kd.V k37 37 w12 w.heap.size (fun k_ => (P0_ k_ ∨ w.heap.size ≤ k_) ∧ some k_ ≠ (u6 : Value).ownBlock ∧ k_ ≠ gb220) (.slice A219_4 ((rd_T27 l0 x11_1).f1.f3).length c219_4) ((rd_T27 l0 x11_1).f1.f3)) := ⟨(by rw [hw]; exact (by (with_reducible repeat (first | apply Kd.V_alloc | apply Kd.V_drewN | apply Kd.V_drew)); exact Kd.V_mono (Kd.V_far (p := ⟨gb220, 5, none⟩) (Kd.V_far (p := ⟨gb220, 4, none⟩) (Kd.V_far (p := ⟨gb220, 3, none⟩) (Kd.V_far (p := ⟨gb220, 2, none⟩) (Kd.V_far (p := ⟨gb220, 1, none⟩) (Kd.V_far (p := ⟨gb220, 0, none⟩) (Kd.V_mono HL219_4.out (fun k_ hk => (⟨hk, hk.2⟩ : _ ∧ k_ ≠ gb220))) (fun _ hk => hk.2) (.int .i64 ((rd_T27 l0 x11_1).f0))) (fun _ hk => hk.2) (.int .i64 ((rd_T27 l0 x11_1).f1.f0))) (fun _ hk => hk.2) (.string ((rd_T27 l0 x11_1).f1.f1))) (fun _ hk => hk.2) (.slice A219_3 ((rd_T27 l0 x11_1).f1.f2).length c219_3)) (fun _ hk => hk.2) (.slice A219_4 ((rd_T27 l0 x11_1).f1.f3).length c219_4)) (fun _ hk => hk.2) (.int .i64 ((rd_T27 l0 x11_1).f2))) (fun _ hk => ⟨hk.1.1.1, ⟨hk.1.1.2, hk.1.2⟩⟩)))⟩; have n5_ : Aside0 (w12.heap[gb220]? = some (.cells #[.int .i64 ((rd_T27 l0 x11_1).f0), .int .i64 ((rd_T27 l0 x11_1).f1.f0), .string ((rd_T27 l0 x11_1).f1.f1), .slice A219_3 ((rd_T27 l0 x11_1).f1.f2).length c219_3, .slice A219_4 ((rd_T27 l0 x11_1).f1.f3).length c219_4, .int .i64 ((rd_T27 l0 x11_1).f2)] 27 (0, 0))) := ⟨(by rw [hw]; exact (by (with_reducible repeat (first | refine blk_drewN ?_ _ | refine blk_drew ?_ | refine blk_alloc ?_ _)); refine blk_put (cs := #[.int .i64 ((rd_T27 l0 x11_1).f0), .int .i64 ((rd_T27 l0 x11_1).f1.f0), .string ((rd_T27 l0 x11_1).f1.f1), .slice A219_3 ((rd_T27 l0 x11_1).f1.f2).length c219_3, .slice A219_4 ((rd_T27 l0 x11_1).f1.f3).length c219_4, .int .i64 0]) ?_ 5 _ rfl; (with_reducible repeat (first | refine blk_drewN ?_ _ | refine blk_drew ?_ | refine blk_alloc ?_ _)); refine blk_put (cs := #[.int .i64 ((rd_T27 l0 x11_1).f0), .int .i64 ((rd_T27 l0 x11_1).f1.f0), .string ((rd_T27 l0 x11_1).f1.f1), .slice A219_3 ((rd_T27 l0 x11_1).f1.f2).length c219_3, .slice none 0 0, .int .i64 0]) ?_ 4 _ rfl; (with_reducible repeat (first | refine blk_drewN ?_ _ | refine blk_drew ?_ | refine blk_alloc ?_ _)); refine blk_put (cs := #[.int .i64 ((rd_T27 l0 x11_1).f0), .int .i64 ((rd_T27 l0 x11_1).f1.f0), .string ((rd_T27 l0 x11_1).f1.f1), .slice none 0 0, .slice none 0 0, .int .i64 0]) ?_ 3 _ rfl; (with_reducible repeat (first | refine blk_drewN ?_ _ | refine blk_drew ?_ | refine blk_alloc ?_ _)); refine blk_put (cs := #[.int .i64 ((rd_T27 l0 x11_1).f0), .int .i64 ((rd_T27 l0 x11_1).f1.f0), .string (⟨#[]⟩ : ByteArray), .slice none 0 0, .slice none 0 0, .int .i64 0]) ?_ 2 _ rfl; (with_reducible repeat (first | refine blk_drewN ?_ _ | refine blk_drew ?_ | refine blk_alloc ?_ _)); refine blk_put (cs := #[.int .i64 ((rd_T27 l0 x11_1).f0), .int .i64 0, .string (⟨#[]⟩ : ByteArray), .slice none 0 0, .slice none 0 0, .int .i64 0]) ?_ 1 _ rfl; (with_reducible repeat (first | refine blk_drewN ?_ _ | refine blk_drew ?_ | refine blk_alloc ?_ _)); refine blk_put (cs := #[.int .i64 0, .int .i64 0, .string (⟨#[]⟩ : ByteArray), .slice none 0 0, .slice none 0 0, .int .i64 0]) ?_ 0 _ rfl; (with_reducible repeat (first | refine blk_drewN ?_ _ | refine blk_drew ?_ | refine blk_alloc ?_ _)); exact BK220.out))⟩; have n6_ : Aside0 (Below w.heap.size w w12) := ⟨(by rw [hw]; exact (by repeat (first | (with_reducible first | exact HB.out | apply below_alloc | apply pw_below_drewN | apply below_drew1 | refine below_set ?_ GE220.out) | exact HB.out)))⟩; clear hw; clear HO_0; clear HO_6; clear HO_9; clear HL219_3; clear HL219_4; clear BK220; clear HB; have HO_0 := n0_; have HO_6 := n1_; have HO_9 := n2_; have HL219_3 := n3_; have HL219_4 := n4_; have BK220 := n5_; have HB := n6_; clear n0_ n1_ n2_ n3_ n4_ n5_ n6_; have hcz13_0 : w12.cell? ⟨gb220, 0, none⟩ = some (.int .i64 ((rd_T27 l0 x11_1).f0)) := (blk_cell BK220.out 0).trans rfl; have hcz13_1 : w12.cell? ⟨gb220, 1, none⟩ = some (.int .i64 ((rd_T27 l0 x11_1).f1.f0)) := (blk_cell BK220.out 1).trans rfl; have hcz13_2 : w12.cell? ⟨gb220, 2, none⟩ = some (.string ((rd_T27 l0 x11_1).f1.f1)) := (blk_cell BK220.out 2).trans rfl; have hcz13_3 : w12.cell? ⟨gb220, 3, none⟩ = some (.slice A219_3 ((rd_T27 l0 x11_1).f1.f2).length c219_3) := (blk_cell BK220.out 3).trans rfl; have hcz13_4 : w12.cell? ⟨gb220, 4, none⟩ = some (.slice A219_4 ((rd_T27 l0 x11_1).f1.f3).length c219_4) := (blk_cell BK220.out 4).trans rfl; have hcz13_5 : w12.cell? ⟨gb220, 5, none⟩ = some (.int .i64 ((rd_T27 l0 x11_1).f2)) := (blk_cell BK220.out 5).trans rfl; have hfz13_0 := blk_frozen BK220.out 0; have hfz13_1 := blk_frozen BK220.out 1; have hfz13_2 := blk_frozen BK220.out 2; have hfz13_3 := blk_frozen BK220.out 3; have hfz13_4 := blk_frozen BK220.out 4; have hfz13_5 := blk_frozen BK220.out 5) | ((with_reducible refine gate_builtin (b := .append) (xs := #[.tmp 19, .tmp 21]) rfl ?_); at_builtin; refine Kd.N_append k27 (w0 := w) w.heap.size rfl (.tmp 19) (.tmp 21) 22 27 (.agg #[(.int .i64 0), (.int .i64 0), (.string ⟨#[]⟩), (.slice none 0 0), (.slice none 0 0), (.int .i64 0)]) 88 rfl Tryd.underlying22 info27 rfl (by decide) (by omega) u6 x6_1 (⟨(rd_T27 l0 x11_1).f0, (⟨(rd_T27 l0 x11_1).f1.f0, (rd_T27 l0 x11_1).f1.f1, (rd_T27 l0 x11_1).f1.f2, (rd_T27 l0 x11_1).f1.f3⟩ : S25), (rd_T27 l0 x11_1).f2⟩ : S27) [.int .i64 ((rd_T27 l0 x11_1).f0), .int .i64 ((rd_T27 l0 x11_1).f1.f0), .string ((rd_T27 l0 x11_1).f1.f1), .slice A219_3 ((rd_T27 l0 x11_1).f1.f2).length c219_3, .slice A219_4 ((rd_T27 l0 x11_1).f1.f3).length c219_4, .int .i64 ((rd_T27 l0 x11_1).f2)] (fun k_ => (P0_ k_ ∨ w.heap.size ≤ k_) ∧ k_ ≠ gb220) (fun k_ => ((fun k_ => (P0_ k_ ∨ w.heap.size ≤ k_) ∧ k_ ≠ gb220)) k_ ∧ some k_ ≠ (u6 : Value).ownBlock) rfl rfl ?aP (fun _ hk => hk) ?aF ?aO ?aB ?aS ?aL ?_; (case aP => exact (k27_mkF _ _ (⟨(rd_T27 l0 x11_1).f0, (⟨(rd_T27 l0 x11_1).f1.f0, (rd_T27 l0 x11_1).f1.f1, (rd_T27 l0 x11_1).f1.f2, (rd_T27 l0 x11_1).f1.f3⟩ : S25), (rd_T27 l0 x11_1).f2⟩ : S27) (Kd.V_reads' (Kd.V_mono (ok' := (fun k_ => ((fun k_ => (P0_ k_ ∨ w.heap.size ≤ k_) ∧ k_ ≠ gb220)) k_ ∧ some k_ ≠ (u6 : Value).ownBlock)) (HL219_3.out) (fun k_ hk => ⟨⟨hk.1, hk.2.2⟩, hk.2.1⟩))).2.1 (Kd.V_F (Kd.V_mono (ok' := (fun k_ => ((fun k_ => (P0_ k_ ∨ w.heap.size ≤ k_) ∧ k_ ≠ gb220)) k_ ∧ some k_ ≠ (u6 : Value).ownBlock)) (HL219_3.out) (fun k_ hk => ⟨⟨hk.1, hk.2.2⟩, hk.2.1⟩))) (Kd.V_reads' (Kd.V_mono (ok' := (fun k_ => ((fun k_ => (P0_ k_ ∨ w.heap.size ≤ k_) ∧ k_ ≠ gb220)) k_ ∧ some k_ ≠ (u6 : Value).ownBlock)) (HL219_4.out) (fun k_ hk => ⟨⟨hk.1, hk.2.2⟩, hk.2.1⟩))).2.1 (Kd.V_F (Kd.V_mono (ok' := (fun k_ => ((fun k_ => (P0_ k_ ∨ w.heap.size ≤ k_) ∧ k_ ≠ gb220)) k_ ∧ some k_ ≠ (u6 : Value).ownBlock)) (HL219_4.out) (fun k_ hk => ⟨⟨hk.1, hk.2.2⟩, hk.2.1⟩))))); (case aB => exact (by repeat (first | (with_reducible first | exact HB.out | apply below_alloc | apply pw_below_drewN | apply below_drew1 | refine below_set ?_ GE220.out) | exact HB.out))); (case aF => exact (fun k_ hk => ⟨(.inr (Nat.le_trans (below_size (by repeat (first | (with_reducible first | exact HB.out | apply below_alloc | apply pw_below_drewN | apply below_drew1 | refine below_set ?_ GE220.out) | exact HB.out))) hk)), Kd.freshB (g := gb220) (o := .cells #[.int .i64 ((rd_T27 l0 x11_1).f0), .int .i64 ((rd_T27 l0 x11_1).f1.f0), .string ((rd_T27 l0 x11_1).f1.f1), .slice A219_3 ((rd_T27 l0 x11_1).f1.f2).length c219_3, .slice A219_4 ((rd_T27 l0 x11_1).f1.f3).length c219_4, .int .i64 ((rd_T27 l0 x11_1).f2)] 27 (0, 0)) (by (with_reducible repeat (first | refine blk_drewN ?_ _ | refine blk_drew ?_ | refine blk_alloc ?_ _)); exact BK220.out) k_ hk⟩)); (case aO => exact (by (with_reducible repeat (first | apply Kd.N_alloc | apply Kd.N_drewN | apply Kd.N_drew)); exact HO_6.out)); (case aS => exact (below_size (by repeat (first | (with_reducible first | exact HB.out | apply below_alloc | apply pw_below_drewN | apply below_drew1 | refine below_set ?_ GE220.out) | exact HB.out)))); (case aL => have := LMc9.out; omega); intro v222 w14 ho hb hg hat; rw [← Ny221.out] at ho; have n0_ := Aside0.mk (Kd.V_afterv (ok := (fun k_ => (P0_ k_ ∨ w.heap.size ≤ k_) ∧ k_ ≠ gb220)) (by (with_reducible repeat (first | apply Kd.V_alloc | apply Kd.V_drewN | apply Kd.V_drew)); exact Kd.V_mono HO_0.out (fun _ hk => ⟨⟨hk.1, hk.2.2⟩, hk.2.1⟩)) hg hat); have n1_ := Aside0.mk (Kd.V_afterv (ok := (fun k_ => (P0_ k_ ∨ w.heap.size ≤ k_) ∧ k_ ≠ gb220)) (by (with_reducible repeat (first | apply Kd.V_alloc | apply Kd.V_drewN | apply Kd.V_drew)); exact Kd.V_mono HO_9.out (fun _ hk => ⟨⟨hk.1, hk.2.2⟩, hk.2.1⟩)) hg hat); have n2_ := Aside0.mk (Kd.V_afterv (ok := (fun k_ => (P0_ k_ ∨ w.heap.size ≤ k_) ∧ k_ ≠ gb220)) (by (with_reducible repeat (first | apply Kd.V_alloc | apply Kd.V_drewN | apply Kd.V_drew)); exact Kd.V_mono HL219_3.out (fun _ hk => ⟨⟨hk.1, hk.2.2⟩, hk.2.1⟩)) hg hat); have n3_ := Aside0.mk (Kd.V_afterv (ok := (fun k_ => (P0_ k_ ∨ w.heap.size ≤ k_) ∧ k_ ≠ gb220)) (by (with_reducible repeat (first | apply Kd.V_alloc | apply Kd.V_drewN | apply Kd.V_drew)); exact Kd.V_mono HL219_4.out (fun _ hk => ⟨⟨hk.1, hk.2.2⟩, hk.2.1⟩)) hg hat); have n4_ := Aside0.mk (blk_grown (g := gb220) (o := .cells #[.int .i64 ((rd_T27 l0 x11_1).f0), .int .i64 ((rd_T27 l0 x11_1).f1.f0), .string ((rd_T27 l0 x11_1).f1.f1), .slice A219_3 ((rd_T27 l0 x11_1).f1.f2).length c219_3, .slice A219_4 ((rd_T27 l0 x11_1).f1.f3).length c219_4, .int .i64 ((rd_T27 l0 x11_1).f2)] 27 (0, 0)) (by (with_reducible repeat (first | refine blk_drewN ?_ _ | refine blk_drew ?_ | refine blk_alloc ?_ _)); exact BK220.out) hg (Kd.N_away HO_6.out (fun _ hk => hk.2))); have n5_ := Aside0.mk (hb); have n6_ := Aside0.mk (ho); clear HO_0; clear HO_9; clear HL219_3; clear HL219_4; clear BK220; clear HB; clear HO_6; have HO_0 := n0_; have HO_9 := n1_; have HL219_3 := n2_; have HL219_4 := n3_; have BK220 := n4_; have HB := n5_; have HO223 := n6_; clear n0_ n1_ n2_ n3_ n4_ n5_ n6_; clear ho hb hg hat))
                go_roundg k1
                case measure => have := HK1.out; omega
                case rel => exact ⟨(y221), (wrap64 (x11_1 + 1)), (by first | rfl | (simp; done) | (simp [*]; done)), H', ⟨by have := HK1.out; omega⟩, ⟨by (with_reducible repeat (first | apply Kd.V_alloc | apply Kd.V_drewN | apply Kd.V_drew)); exact Kd.V_mono HO_0.out (fun _ hk => ⟨hk.1.1, hk.2⟩)⟩, ⟨by (with_reducible repeat (first | apply Kd.N_alloc | apply Kd.N_drewN | apply Kd.N_drew)); exact Kd.N_mono HO223.out (fun _ hk => hk.1)⟩, ⟨by (with_reducible repeat (first | apply Kd.V_alloc | apply Kd.V_drewN | apply Kd.V_drew)); exact Kd.V_mono HO_9.out (fun _ hk => ⟨hk.1.1, hk.2⟩)⟩, ⟨by repeat (first | (with_reducible first | exact HB.out | apply below_alloc | apply pw_below_drewN | apply below_drew1 | refine below_set ?_ GE220.out) | exact HB.out)⟩⟩
              · rw [if_neg c9] at H
                exact absurd H (by simp)
          · rw [if_neg c5] at H
            exact absurd H (by simp)
        · rw [if_neg c4] at H
          exact absurd H (by simp)
      · rw [if_neg c3] at H
        have c3b0 : decide (x11_1 < (l0.length : Int)) = false := decide_eq_false c3
        clear c3
        by_cases c15 : (x6_1.length : Int) = (l0.length : Int)
        · rw [if_pos c15] at H
          have c15b0 : ((x6_1.length : Int) == (l0.length : Int)) = true := beq_iff_eq.mpr c15
          have c15b1 : ((x6_1.length : Int) != (l0.length : Int)) = false := bne_eq_false_iff_eq.mpr c15
          have c15b2 : (x6_1.length == l0.length) = true := by first | simpa using c15 | (simp at c15 ⊢; omega)
          clear c15
          simp only [Option.some.injEq, Prod.mk.injEq] at H
          obtain ⟨rfl, rfl⟩ := H
          obtain ⟨Ao16, co16, eo16⟩ := Kd.N_slice HO_6.out
          subst eo16
          go_wp2
          go_ret2
          exact ⟨_, by first | rfl | (simp [errW_none, errW_some] <;> rfl) | (simp [*, errW_none, errW_some] <;> rfl), by first | exact Kd.R_nil _ _ _ _ _ | exact Kd.N_nil _ _ _ _ _ | exact Kd.V_nil _ _ _ _ _ | exact Kd.Q_nil _ _ _ _ _ | exact Kd.S_nil _ _ _ _ _, by repeat (first | (with_reducible first | exact HB.out | apply below_alloc | apply pw_below_drewN | apply below_drew1) | exact HB.out)⟩
        · rw [if_neg c15] at H
          have c15b0 : ((x6_1.length : Int) == (l0.length : Int)) = false := beq_eq_false_iff_ne.mpr c15
          have c15b1 : ((x6_1.length : Int) != (l0.length : Int)) = true := bne_iff_ne.mpr c15
          have c15b2 : (x6_1.length == l0.length) = false := by first | simpa using c15 | (simp at c15 ⊢; omega)
          simp only [Option.some.injEq, Prod.mk.injEq] at H
          obtain ⟨rfl, rfl⟩ := H
          obtain ⟨Ao17, co17, eo17⟩ := Kd.N_slice HO_6.out
          subst eo17
          go_wp2
          go_ret2
          exact ⟨_, by first | rfl | (simp [errW_none, errW_some] <;> rfl) | (simp [*, errW_none, errW_some] <;> rfl), by (with_reducible repeat (first | apply Kd.N_alloc | apply Kd.N_drewN | apply Kd.N_drew)); exact HO_6.out, by repeat (first | (with_reducible first | exact HB.out | apply below_alloc | apply pw_below_drewN | apply below_drew1) | exact HB.out)⟩
def switchyardref19_Word.f (a0 : Int) : Option (ByteArray) := if a0 = 1 then (some (⟨#[110, 111, 32, 109, 97, 116, 99, 104]⟩ : ByteArray)) else (if a0 = 2 then (some (⟨#[116, 111, 111, 32, 102, 101, 119]⟩ : ByteArray)) else (if a0 = 3 then (some (⟨#[116, 111, 111, 32, 109, 97, 110, 121]⟩ : ByteArray)) else (if a0 = 4 then (some (⟨#[111, 118, 101, 114]⟩ : ByteArray)) else (if a0 = 5 then (some (⟨#[98, 117, 114, 105, 101, 100]⟩ : ByteArray)) else (some (⟨#[]⟩ : ByteArray))))))
set_option maxHeartbeats 600000 in
set_option maxRecDepth 100000 in
theorem switchyardref19_Word.calls (a0 : Int) (r : ByteArray) (w : World) (h : switchyardref19_Word.f a0 = some r) :
    Calls Tryd.prog 19 #[.int .i64 a0] w fun e w' => e = .returned (.string r) ∧ Drawn0 w w' := by
  have H : (if a0 = 1 then (some (⟨#[110, 111, 32, 109, 97, 116, 99, 104]⟩ : ByteArray)) else (if a0 = 2 then (some (⟨#[116, 111, 111, 32, 102, 101, 119]⟩ : ByteArray)) else (if a0 = 3 then (some (⟨#[116, 111, 111, 32, 109, 97, 110, 121]⟩ : ByteArray)) else (if a0 = 4 then (some (⟨#[111, 118, 101, 114]⟩ : ByteArray)) else (if a0 = 5 then (some (⟨#[98, 117, 114, 105, 101, 100]⟩ : ByteArray)) else (some (⟨#[]⟩ : ByteArray))))))) = some r := h
  clear h
  by_cases c2 : a0 = 1
  · rw [if_pos c2] at H
    have c2b0 : (a0 == 1) = true := beq_iff_eq.mpr c2
    have c2b1 : (a0 != 1) = false := bne_eq_false_iff_eq.mpr c2
    clear c2
    obtain rfl := Option.some.inj H
    go_enter Tryd.func19, Tryd.ntmps19
    go_wp2
    go_ret
    exact ⟨by first | rfl | (simp; done) | (simp [*]; done), by repeat (first | exact Drawn0.refl _ | apply Drawn0.step)⟩
  · rw [if_neg c2] at H
    have c2b0 : (a0 == 1) = false := beq_eq_false_iff_ne.mpr c2
    have c2b1 : (a0 != 1) = true := bne_iff_ne.mpr c2
    by_cases c3 : a0 = 2
    · rw [if_pos c3] at H
      have c3b0 : (a0 == 2) = true := beq_iff_eq.mpr c3
      have c3b1 : (a0 != 2) = false := bne_eq_false_iff_eq.mpr c3
      clear c3
      obtain rfl := Option.some.inj H
      go_enter Tryd.func19, Tryd.ntmps19
      go_wp2
      go_ret
      exact ⟨by first | rfl | (simp; done) | (simp [*]; done), by repeat (first | exact Drawn0.refl _ | apply Drawn0.step)⟩
    · rw [if_neg c3] at H
      have c3b0 : (a0 == 2) = false := beq_eq_false_iff_ne.mpr c3
      have c3b1 : (a0 != 2) = true := bne_iff_ne.mpr c3
      by_cases c4 : a0 = 3
      · rw [if_pos c4] at H
        have c4b0 : (a0 == 3) = true := beq_iff_eq.mpr c4
        have c4b1 : (a0 != 3) = false := bne_eq_false_iff_eq.mpr c4
        clear c4
        obtain rfl := Option.some.inj H
        go_enter Tryd.func19, Tryd.ntmps19
        go_wp2
        go_ret
        exact ⟨by first | rfl | (simp; done) | (simp [*]; done), by repeat (first | exact Drawn0.refl _ | apply Drawn0.step)⟩
      · rw [if_neg c4] at H
        have c4b0 : (a0 == 3) = false := beq_eq_false_iff_ne.mpr c4
        have c4b1 : (a0 != 3) = true := bne_iff_ne.mpr c4
        by_cases c5 : a0 = 4
        · rw [if_pos c5] at H
          have c5b0 : (a0 == 4) = true := beq_iff_eq.mpr c5
          have c5b1 : (a0 != 4) = false := bne_eq_false_iff_eq.mpr c5
          clear c5
          obtain rfl := Option.some.inj H
          go_enter Tryd.func19, Tryd.ntmps19
          go_wp2
          go_ret
          exact ⟨by first | rfl | (simp; done) | (simp [*]; done), by repeat (first | exact Drawn0.refl _ | apply Drawn0.step)⟩
        · rw [if_neg c5] at H
          have c5b0 : (a0 == 4) = false := beq_eq_false_iff_ne.mpr c5
          have c5b1 : (a0 != 4) = true := bne_iff_ne.mpr c5
          by_cases c6 : a0 = 5
          · rw [if_pos c6] at H
            have c6b0 : (a0 == 5) = true := beq_iff_eq.mpr c6
            have c6b1 : (a0 != 5) = false := bne_eq_false_iff_eq.mpr c6
            clear c6
            obtain rfl := Option.some.inj H
            go_enter Tryd.func19, Tryd.ntmps19
            go_wp2
            go_ret
            exact ⟨by first | rfl | (simp; done) | (simp [*]; done), by repeat (first | exact Drawn0.refl _ | apply Drawn0.step)⟩
          · rw [if_neg c6] at H
            have c6b0 : (a0 == 5) = false := beq_eq_false_iff_ne.mpr c6
            have c6b1 : (a0 != 5) = true := bne_iff_ne.mpr c6
            obtain rfl := Option.some.inj H
            go_enter Tryd.func19, Tryd.ntmps19
            go_wp2
            go_ret
            exact ⟨by first | rfl | (simp; done) | (simp [*]; done), by repeat (first | exact Drawn0.refl _ | apply Drawn0.step)⟩
end Go.Proofs.YtknbebjphjpgpaaDoor.XD
namespace Go.Proofs.YtknbebjphjpgpaaDoor.XD
open Go.RowKit Go.Proofs.YtknbebjphjpgpaaDoorW.PrintWords Go.Proofs.YtknbebjphjpgpaaDoorW.PrintLast Go.Proofs.YtknbebjphjpgpaaDoorW.PrintMore
set_option linter.unusedVariables false
set_option linter.unusedSimpArgs false
instance : DecidableEq S25 := fun a b => by
  obtain ⟨a0, a1, a2, a3⟩ := a
  obtain ⟨b0, b1, b2, b3⟩ := b
  rw [S25.mk.injEq]
  exact inferInstance
instance : DecidableEq S27 := fun a b => by
  obtain ⟨a0, a1, a2⟩ := a
  obtain ⟨b0, b1, b2⟩ := b
  rw [S27.mk.injEq]
  exact inferInstance
/-- A row of values that is short, with lists that may be. -/
def OkV (l : List S37) : Prop := l.length ≤ 30 ∧ ∀ v ∈ l, v.f3.length * 8 ≤ 140737488355328
/-- A letter whose rows are short. -/
def OkL (x : S27) : Prop := OkV x.f1.f2 ∧ OkV x.f1.f3
/-- Letters that are few and short. -/
def OkA (l : List S27) : Prop := l.length ≤ 1000 ∧ ∀ x ∈ l, OkL x
theorem OkV.short {l : List S37} (h : OkV l) : ∀ v ∈ l, v.f3.length ≤ 4611686018427387904 := fun v hv => by have := h.2 v hv; omega
theorem take_len {α : Type} (i : Nat) (l : List α) : (l.take i).length ≤ l.length := List.length_take_le' i l
theorem twin_loop (l : List S37) (h : OkV l) : ∀ d i : Nat, i + d = l.length → Ev (fun k => value_Twin.l0 k (l.take i) l (l.length : Int) (i : Int)) l := by
  have hl := h.1
  intro d
  induction d with
  | zero =>
    intro i hi
    refine Ev.step (fun k => by simp only [value_Twin.l0]; rfl) (Ev.neg (by omega) (Ev.val ?_))
    exact List.take_of_length_le (by omega)
  | succ d ih =>
    intro i hi
    have hlt : i < l.length := by omega
    have hs := h.2 _ (List.getElem_mem hlt)
    have next := ih (i + 1) (by omega)
    refine Ev.step (fun k => by simp only [value_Twin.l0]; rfl) (Ev.pos (by omega) (Ev.pos (by omega) (Ev.pos (by omega) ?_)))
    rw [rdT_at hlt, wr_succ hlt (by omega)]
    unfold slices_Clone_int64_int64.f
    rw [if_pos hs]
    refine Ev.bind (Ev.now _) (Ev.pos (by have := take_len i l; omega) ?_)
    rw [List.take_succ_eq_append_getElem hlt] at next
    exact next
theorem twin_ev (l : List S37) (h : OkV l) : Ev (fun k => value_Twin.f k l) l := by
  have := twin_loop l h l.length 0 (by omega)
  simpa [value_Twin.f] using this
theorem dtwin_ev (x : S27) (h : OkL x) : Ev (fun k => dead_twin.f k x.f0 x.f1.f0 x.f1.f1 x.f1.f2 x.f1.f3 x.f2) (x.f0, x.f1.f0, x.f1.f1, x.f1.f2, x.f1.f3, x.f2) :=
  Ev.bind (twin_ev _ h.1) (Ev.bind (twin_ev _ h.2) (Ev.now _))
theorem but_loop (p : S27 → Bool) (l : List S27) (h : OkA l) : ∀ d i : Nat, i + d = l.length → Ev (fun k => dead_but.l0 k p ((l.take i).filter fun x => !p x) l (l.length : Int) (i : Int)) (l.filter fun x => !p x) := by
  have hl := h.1
  intro d
  induction d with
  | zero =>
    intro i hi
    refine Ev.step (fun k => by simp only [dead_but.l0]; rfl) (Ev.neg (by omega) (Ev.val ?_))
    rw [List.take_of_length_le (by omega)]
  | succ d ih =>
    intro i hi
    have hlt : i < l.length := by omega
    have hs := h.2 _ (List.getElem_mem hlt)
    have next := ih (i + 1) (by omega)
    refine Ev.step (fun k => by simp only [dead_but.l0]; rfl) (Ev.pos (by omega) (Ev.pos (by omega) (Ev.pos (by omega) ?_)))
    rw [rd27_at hlt, wr_succ hlt (by omega)]
    unfold dead_clo.f
    rw [List.take_succ_eq_append_getElem hlt, List.filter_append] at next
    refine Ev.bind (Ev.now _) ?_
    by_cases hp : p l[i] = true
    · refine Ev.pos hp ?_
      rw [List.filter_cons_of_neg (by simp [hp]), List.filter_nil, List.append_nil] at next
      exact next
    · refine Ev.neg hp (Ev.bind (dtwin_ev _ hs) (Ev.pos ?_ ?_))
      · have h1 := List.length_filter_le (fun x => !p x) (l.take i)
        have h2 := take_len i l
        omega
      · rw [List.filter_cons_of_pos (by simp [hp]), List.filter_nil] at next
        exact next
theorem but_ev (p : S27 → Bool) (l : List S27) (h : OkA l) : Ev (fun k => dead_but.g k l p) (l.filter fun x => !p x) := by
  have := but_loop p l h l.length 0 (by omega)
  simpa [dead_but.g] using this
theorem but0_ev (l : List S27) (h : OkA l) : Ev (fun k => dead_but.f k l) l := by
  have := but_ev (fun _ => false) l h
  rw [List.filter_eq_self.2 (by simp)] at this
  exact this
theorem word_code (r : Int) : switchyardref19_Word.f r = some (wordB r) := by
  unfold switchyardref19_Word.f
  by_cases h : 1 ≤ r ∧ r ≤ 5
  · obtain h | h | h | h | h : r = 1 ∨ r = 2 ∨ r = 3 ∨ r = 4 ∨ r = 5 := by omega
    all_goals subst h; rfl
  · rw [if_neg (by omega), if_neg (by omega), if_neg (by omega), if_neg (by omega), if_neg (by omega)]
    have e : wordL.getD r.toNat [] = [] := by
      by_cases h0 : r.toNat = 0
      · rw [h0]; rfl
      · have hl : wordL.length = 6 := rfl
        rw [List.getD_eq_getElem?_getD, List.getElem?_eq_none (by omega)]; rfl
    unfold wordB
    rw [e]
theorem word_none (r : Int) : (wordB r).toList = ([] : List UInt8) ↔ r < 1 ∨ 5 < r := by
  have e : (wordB r).toList = wordL.getD r.toNat [] := mkS_toList _
  rw [e]
  have hl : wordL.length = 6 := rfl
  by_cases h : 1 ≤ r ∧ r ≤ 5
  · have : wordL.getD r.toNat [] ≠ [] := by
      obtain h | h | h | h | h : r = 1 ∨ r = 2 ∨ r = 3 ∨ r = 4 ∨ r = 5 := by omega
      all_goals subst h; decide
    constructor
    · intro hh; exact absurd hh this
    · omega
  · constructor
    · omega
    · intro _
      by_cases h0 : r.toNat = 0
      · rw [h0]; rfl
      · rw [List.getD_eq_getElem?_getD, List.getElem?_eq_none (by omega)]; rfl
theorem idx_none {l : List S27} {n : Int} (h : ∀ x ∈ l, x.f0 ≠ n) : idxOf l n = -1 := by
  unfold idxOf
  rw [if_neg]
  intro hlt
  exact h _ (List.getElem_mem hlt) (by simpa using List.findIdx_getElem (w := hlt))
theorem idx_cases (l : List S27) (n : Int) : (idxOf l n = -1 ∧ ∀ x ∈ l, x.f0 ≠ n) ∨ ∃ (i : Nat) (h : i < l.length), idxOf l n = (i : Int) ∧ l[i].f0 = n ∧ ∀ (j : Nat) (hj : j < l.length), j < i → l[j].f0 ≠ n := by
  by_cases h : ∀ x ∈ l, x.f0 ≠ n
  · exact Or.inl ⟨idx_none h, h⟩
  · refine Or.inr ?_
    have hex : ∃ x ∈ l, (fun x : S27 => x.f0 == n) x = true := by
      simp only [Classical.not_forall] at h
      obtain ⟨x, hx, hn⟩ := h
      exact ⟨x, hx, by simpa using hn⟩
    have hlt := List.findIdx_lt_length_of_exists hex
    refine ⟨_, hlt, ?_, by simpa using List.findIdx_getElem (w := hlt), fun j hj hji => by simpa using List.not_of_lt_findIdx hji⟩
    unfold idxOf
    rw [if_pos hlt]
/-- Is there one of that number? -/
def has (l : List S27) (n : Int) : Bool := l.any fun x => x.f0 == n
theorem has_iff (l : List S27) (n : Int) : has l n = true ↔ idxOf l n ≥ 0 := by
  unfold has
  rw [List.any_eq_true]
  rcases idx_cases l n with ⟨h, hn⟩ | ⟨i, hi, h, he, _⟩
  · rw [h]
    constructor
    · rintro ⟨x, hx, hh⟩; exact absurd (by simpa using hh) (hn x hx)
    · omega
  · rw [h]
    exact ⟨fun _ => by omega, fun _ => ⟨_, List.getElem_mem hi, by simpa using he⟩⟩
/-- One more, in plain words. -/
def putP (l : List S27) (x : S27) (most : Int) : List S27 × Int :=
  if x.f2 < 1 ∨ 5 < x.f2 then ([], 2) else if has l x.f0 = true then ([], 21) else if (l.length : Int) ≥ most then ([], 42) else (l ++ [x], 0)
theorem put_ev (l : List S27) (x : S27) (most : Int) (h : OkA l) (hx : OkL x) : Ev (fun k => dead_Put.f k l x.f0 x.f1.f0 x.f1.f1 x.f1.f2 x.f1.f3 x.f2 most) (putP l x most) := by
  have hl := h.1
  unfold dead_Put.f dead_Word.f putP
  refine Ev.bind (Ev.now _) ?_
  by_cases hw : x.f2 < 1 ∨ 5 < x.f2
  · rw [if_pos hw]
    exact Ev.pos ((word_none _).2 hw) (Ev.now _)
  · rw [if_neg hw]
    refine Ev.neg (fun hh => hw ((word_none _).1 hh)) ?_
    unfold dead_at.f
    rw [if_pos (by omega)]
    refine Ev.bind (Ev.now _) ?_
    by_cases hi : has l x.f0 = true
    · rw [if_pos hi]
      exact Ev.pos ((has_iff _ _).1 hi) (Ev.now _)
    · rw [if_neg hi]
      refine Ev.neg (fun hh => hi ((has_iff _ _).2 hh)) ?_
      by_cases hm : (l.length : Int) ≥ most
      · rw [if_pos hm]; exact Ev.pos hm (Ev.now _)
      · rw [if_neg hm]
        exact Ev.neg hm (Ev.bind (but0_ev l h) (Ev.bind (dtwin_ev x hx) (Ev.pos (by omega) (Ev.now _))))
/-- Without the ones of a number. -/
def dropP (l : List S27) (n : Int) : List S27 × Int := if has l n = true then (l.filter fun x => !(x.f0 == n), 0) else ([], 22)
theorem drop_ev (l : List S27) (n : Int) (h : OkA l) : Ev (fun k => dead_Drop.f k l n) (dropP l n) := by
  have hl := h.1
  unfold dead_Drop.f dead_at.f dropP
  rw [if_pos (by omega)]
  refine Ev.bind (Ev.now _) ?_
  by_cases hi : has l n = true
  · rw [if_pos hi]
    refine Ev.neg (by have := (has_iff _ _).1 hi; omega) (Ev.bind (but_ev _ l h) (Ev.now _))
  · rw [if_neg hi]
    refine Ev.pos ?_ (Ev.now _)
    rcases idx_cases l n with ⟨h, _⟩ | ⟨i, hi', h, _⟩
    · omega
    · exact absurd ((has_iff _ _).2 (by omega)) hi
/-- The first one of a number. -/
def findP (l : List S27) (n : Int) : Int × Int × ByteArray × (List S37) × (List S37) × Int × Bool :=
  match l.find? (fun x => x.f0 == n) with
  | some x => (x.f0, x.f1.f0, x.f1.f1, x.f1.f2, x.f1.f3, x.f2, true)
  | none => (0, 0, (⟨#[]⟩ : ByteArray), [], [], 0, false)
theorem find_at {l : List S27} {n : Int} {i : Nat} (hi : i < l.length) (he : l[i].f0 = n) (hlt : ∀ (j : Nat) (hj : j < l.length), j < i → l[j].f0 ≠ n) : l.find? (fun x => x.f0 == n) = some l[i] := by
  rw [List.find?_eq_some_iff_getElem]
  exact ⟨by simpa using he, i, hi, rfl, fun j hj => by simpa using hlt j (by omega) hj⟩
theorem find_none {l : List S27} {n : Int} (h : ∀ x ∈ l, x.f0 ≠ n) : l.find? (fun x => x.f0 == n) = none := by
  rw [List.find?_eq_none]
  exact fun x hx => by simpa using h x hx
theorem find_ev (l : List S27) (n : Int) (h : OkA l) : Ev (fun k => dead_Find.f k l n) (findP l n) := by
  have hl := h.1
  unfold dead_Find.f dead_at.f findP
  rw [if_pos (by omega)]
  refine Ev.bind (Ev.now _) ?_
  rcases idx_cases l n with ⟨hj, hn⟩ | ⟨i, hi, hj, he, hlt⟩
  · rw [find_none hn]
    exact Ev.pos (by omega) (Ev.now _)
  · rw [find_at hi he hlt, hj]
    refine Ev.neg (by omega) (Ev.pos (by omega) (Ev.pos (by omega) ?_))
    rw [rd27_at hi]
    exact Ev.bind (dtwin_ev _ (h.2 _ (List.getElem_mem hi))) (Ev.now _)
theorem rfind_loop (n : Int) (l : List S27) (h : l.length ≤ 1000) : ∀ d i : Nat, i + d = l.length → Ev (fun k => switchyardref19_Find.l0 k n l (l.length : Int) (i : Int)) (findP (l.drop i) n) := by
  intro d
  induction d with
  | zero =>
    intro i hi
    refine Ev.step (fun k => by simp only [switchyardref19_Find.l0]; rfl) (Ev.neg (by omega) (Ev.val ?_))
    rw [List.drop_eq_nil_of_le (by omega)]; rfl
  | succ d ih =>
    intro i hi
    have hlt : i < l.length := by omega
    have next := ih (i + 1) (by omega)
    refine Ev.step (fun k => by simp only [switchyardref19_Find.l0]; rfl) (Ev.pos (by omega) (Ev.pos (by omega) (Ev.pos (by omega) ?_)))
    rw [rd27_at hlt, wr_succ hlt (by omega), List.drop_eq_getElem_cons hlt]
    by_cases he : l[i].f0 = n
    · refine Ev.pos he (Ev.val ?_)
      unfold findP
      rw [List.find?_cons_of_pos (by simpa using he)]
    · refine Ev.neg he ?_
      have e : findP (l[i] :: l.drop (i + 1)) n = findP (l.drop (i + 1)) n := by
        unfold findP
        rw [List.find?_cons_of_neg (by simpa using he)]
      rw [e]; exact next
theorem rfind_ev (l : List S27) (n : Int) (h : l.length ≤ 1000) : Ev (fun k => switchyardref19_Find.f k l n) (findP l n) := by
  have := rfind_loop n l h l.length 0 (by omega)
  simpa [switchyardref19_Find.f] using this
theorem findP_has (l : List S27) (n : Int) : (findP l n).2.2.2.2.2.2 = has l n := by
  rcases idx_cases l n with ⟨h, hn⟩ | ⟨i, hi, h, he, hlt⟩
  · have : has l n = false := by
      rw [Bool.eq_false_iff]; intro hh; have := (has_iff l n).1 hh; omega
    unfold findP
    rw [find_none hn, this]
  · have : has l n = true := (has_iff l n).2 (by omega)
    unfold findP
    rw [find_at hi he hlt, this]
theorem rput_ev (l : List S27) (x : S27) (most : Int) (h : l.length ≤ 1000) : Ev (fun k => switchyardref19_Put.f k l x.f0 x.f1.f0 x.f1.f1 x.f1.f2 x.f1.f3 x.f2 most) (putP l x most) := by
  have no : ¬ (x.f2 < 1 ∨ 5 < x.f2) → Ev (fun k => switchyardref19_Put.j0 k l x.f0 x.f2 most false x.f1.f0 x.f1.f1 x.f1.f2 x.f1.f3) (putP l x most) := by
    intro hw
    refine Ev.step (fun k => by simp only [switchyardref19_Put.j0]; rfl) (Ev.neg (by simp) (Ev.bind (rfind_ev l _ h) ?_))
    rw [findP_has]
    by_cases hi : has l x.f0 = true
    · exact Ev.pos hi (Ev.val (by unfold putP; rw [if_neg hw, if_pos hi]))
    · refine Ev.neg hi ?_
      by_cases hm : (l.length : Int) ≥ most
      · exact Ev.pos hm (Ev.val (by unfold putP; rw [if_neg hw, if_neg hi, if_pos hm]))
      · refine Ev.neg hm (Ev.bind (Ev.now _) (Ev.pos (by simp; omega) (Ev.bind (Ev.now _) (Ev.bind (Ev.now _) (Ev.pos (by simp; omega) (Ev.val ?_))))))
        unfold putP; rw [if_neg hw, if_neg hi, if_neg hm]
        simp
  have yes : (x.f2 < 1 ∨ 5 < x.f2) → Ev (fun k => switchyardref19_Put.j0 k l x.f0 x.f2 most true x.f1.f0 x.f1.f1 x.f1.f2 x.f1.f3) (putP l x most) := by
    intro hw
    unfold putP
    rw [if_pos hw]
    exact Ev.step (fun k => by simp only [switchyardref19_Put.j0]; rfl) (Ev.pos (by trivial) (Ev.now _))
  unfold switchyardref19_Put.f
  by_cases h1 : x.f2 < 1
  · exact Ev.pos h1 (yes (Or.inl h1))
  · refine Ev.neg h1 ?_
    by_cases h5 : x.f2 > 5
    · rw [decide_eq_true h5]; exact yes (Or.inr h5)
    · rw [decide_eq_false h5]; exact no (by omega)
theorem rdrop_loop (n : Int) (l : List S27) (h : l.length ≤ 1000) : ∀ d i : Nat, i + d = l.length → Ev (fun k => switchyardref19_Drop.l0 k l n ((l.take i).filter fun x => !(x.f0 == n)) l (l.length : Int) (i : Int)) (dropP l n) := by
  intro d
  induction d with
  | zero =>
    intro i hi
    refine Ev.step (fun k => by simp only [switchyardref19_Drop.l0]; rfl) (Ev.neg (by omega) ?_)
    rw [List.take_of_length_le (by omega)]
    unfold dropP
    by_cases hh : has l n = true
    · rw [if_pos hh]
      refine Ev.neg ?_ (Ev.now _)
      intro he
      have he' : (l.filter fun x => !(x.f0 == n)).length = l.length := by omega
      have := List.length_filter_eq_length_iff.1 he'
      obtain ⟨x, hx, hp⟩ := List.any_eq_true.1 hh
      have := this x hx
      simp only [hp] at this
      cases this
    · rw [if_neg hh]
      refine Ev.pos ?_ (Ev.now _)
      have e : (l.filter fun x => !(x.f0 == n)) = l := by
        rw [List.filter_eq_self]
        intro x hx
        have := List.any_eq_false.1 (by simpa using hh : has l n = false) x hx
        simpa using this
      rw [e]
  | succ d ih =>
    intro i hi
    have hlt : i < l.length := by omega
    have next := ih (i + 1) (by omega)
    refine Ev.step (fun k => by simp only [switchyardref19_Drop.l0]; rfl) (Ev.pos (by omega) (Ev.pos (by omega) (Ev.pos (by omega) ?_)))
    rw [rd27_at hlt, wr_succ hlt (by omega)]
    rw [List.take_succ_eq_append_getElem hlt, List.filter_append] at next
    by_cases hp : l[i].f0 = n
    · refine Ev.pos hp ?_
      rw [List.filter_cons_of_neg (by simp [hp]), List.filter_nil, List.append_nil] at next
      exact next
    · refine Ev.neg hp (Ev.pos ?_ ?_)
      · have h1 := List.length_filter_le (fun x : S27 => !(x.f0 == n)) (l.take i)
        have h2 := take_len i l
        omega
      · rw [List.filter_cons_of_pos (by simp [hp]), List.filter_nil] at next
        exact next
theorem rdrop_ev (l : List S27) (n : Int) (h : l.length ≤ 1000) : Ev (fun k => switchyardref19_Drop.f k l n) (dropP l n) := by
  have := rdrop_loop n l h l.length 0 (by omega)
  simpa [switchyardref19_Drop.f] using this
theorem wr_cnt {m : Nat} (hn : m < 9223372036854775807) : wrap64 ((m : Int) + 1) = ((m + 1 : Nat) : Int) := by
  unfold wrap64; omega
def cntP (l : List S27) (r : Int) : Nat := (l.filter fun x => x.f2 == r).length
theorem count_loop (r : Int) (l : List S27) (h : l.length ≤ 2000) : ∀ d i : Nat, i + d = l.length → Ev (fun k => dead_Count.l0 k r ((cntP (l.take i) r : Nat) : Int) l (l.length : Int) (i : Int)) ((cntP l r : Nat) : Int) := by
  intro d
  induction d with
  | zero =>
    intro i hi
    refine Ev.step (fun k => by simp only [dead_Count.l0]; rfl) (Ev.neg (by omega) (Ev.val ?_))
    rw [List.take_of_length_le (by omega)]
  | succ d ih =>
    intro i hi
    have hlt : i < l.length := by omega
    have next := ih (i + 1) (by omega)
    refine Ev.step (fun k => by simp only [dead_Count.l0]; rfl) (Ev.pos (by omega) (Ev.pos (by omega) (Ev.pos (by omega) ?_)))
    rw [rd27_at hlt, wr_succ hlt (by omega)]
    have hc : cntP (l.take i) r ≤ 2000 := by
      have h1 := List.length_filter_le (fun x : S27 => x.f2 == r) (l.take i)
      have h2 := take_len i l
      unfold cntP; omega
    have e : cntP (l.take (i + 1)) r = cntP (l.take i) r + if l[i].f2 = r then 1 else 0 := by
      unfold cntP
      rw [List.take_succ_eq_append_getElem hlt, List.filter_append, List.length_append]
      by_cases hp : l[i].f2 = r <;> simp [hp]
    rw [e] at next
    by_cases hp : l[i].f2 = r
    · rw [if_pos hp] at next
      refine Ev.pos hp ?_
      rw [wr_cnt (by omega)]; exact next
    · rw [if_neg hp] at next
      exact Ev.neg hp next
theorem count_ev (l : List S27) (r : Int) (h : l.length ≤ 2000) : Ev (fun k => dead_Count.f k l r) ((cntP l r : Nat) : Int) := by
  have := count_loop r l h l.length 0 (by omega)
  simpa [dead_Count.f, cntP] using this
/-- Are letters few, and short? -/
def smallB (l : List S27) : Bool := l.all fun x => decide (l.length ≤ 100 ∧ x.f1.f2.length ≤ 30 ∧ x.f1.f3.length ≤ 30)
theorem small_loop (l : List S27) (h : l.length ≤ 4611686018427387904) : ∀ d i : Nat, i + d = l.length → Ev (fun k => switchyardlaw19_small.l0 k l l (l.length : Int) (i : Int)) ((l.drop i).all fun x => decide (l.length ≤ 100 ∧ x.f1.f2.length ≤ 30 ∧ x.f1.f3.length ≤ 30)) := by
  intro d
  induction d with
  | zero =>
    intro i hi
    refine Ev.step (fun k => by simp only [switchyardlaw19_small.l0]; rfl) (Ev.neg (by omega) (Ev.val ?_))
    rw [List.drop_eq_nil_of_le (by omega)]; rfl
  | succ d ih =>
    intro i hi
    have hlt : i < l.length := by omega
    have next := ih (i + 1) (by omega)
    refine Ev.step (fun k => by simp only [switchyardlaw19_small.l0]; rfl) (Ev.pos (by omega) (Ev.pos (by omega) (Ev.pos (by omega) ?_)))
    rw [rd27_at hlt, wr_succ hlt (by omega), List.drop_eq_getElem_cons hlt, List.all_cons]
    by_cases h1 : l.length ≤ 100
    · refine Ev.neg (by omega) ?_
      by_cases h2 : l[i].f1.f2.length ≤ 30
      · refine Ev.neg (by omega) ?_
        by_cases h3 : l[i].f1.f3.length ≤ 30
        · refine Ev.neg (by omega) ?_
          rw [decide_eq_true ⟨h1, h2, h3⟩]
          simpa using next
        · rw [decide_eq_false (fun hh => h3 hh.2.2)]
          exact Ev.pos (by omega) (Ev.now _)
      · rw [decide_eq_false (fun hh => h2 hh.2.1)]
        exact Ev.pos (by omega) (Ev.now _)
    · rw [decide_eq_false (fun hh => h1 hh.1)]
      exact Ev.pos (by omega) (Ev.now _)
theorem small_ev (l : List S27) (h : l.length ≤ 4611686018427387904) : Ev (fun k => switchyardlaw19_small.f k l) (smallB l) := by
  have := small_loop l h l.length 0 (by omega)
  simpa [switchyardlaw19_small.f, smallB] using this
theorem mail_ev (x y : S27) (h : OkL x) : Ev (fun k => switchyardref13_SameMail.f k x.f1.f0 x.f1.f1 x.f1.f2 x.f1.f3 y.f1.f0 y.f1.f1 y.f1.f2 y.f1.f3) (decide (x.f1 = y.f1)) := by
  obtain ⟨x0, ⟨a, b, c, d⟩, x2⟩ := x
  obtain ⟨y0, ⟨a', b', c', d'⟩, y2⟩ := y
  unfold switchyardref13_SameMail.f
  simp only
  have e : decide ((⟨a, b, c, d⟩ : S25) = ⟨a', b', c', d'⟩) = (decide (a = a') && (decide (b = b') && (decide (c = c') && decide (d = d')))) := by
    rw [Bool.eq_iff_iff]
    simp only [S25.mk.injEq, decide_eq_true_eq, Bool.and_eq_true]
  rw [e]
  by_cases h1 : a = a'
  · refine Ev.pos h1 ?_
    by_cases h2 : b = b'
    · refine Ev.pos (by rw [h2]) (Ev.bind (sameAll_ev c c' (by have := h.1.1; simp only at this; omega) h.1.short) ?_)
      by_cases h3 : c = c'
      · refine Ev.pos (by simpa using h3) (Ev.bind (sameAll_ev d d' (by have := h.2.1; simp only at this; omega) h.2.short) (Ev.val ?_))
        simp [h1, h2, h3]
      · refine Ev.neg (by simpa using h3) (Ev.val ?_)
        simp [h3]
    · refine Ev.neg (fun hh => h2 ((str_eq_iff _ _).1 hh)) (Ev.val ?_)
      simp [h2]
  · refine Ev.neg h1 (Ev.val ?_)
    simp [h1]
theorem sdead_ev (x y : S27) (h : OkL x) : Ev (fun k => switchyardref13_SameDead.f k x.f0 x.f1.f0 x.f1.f1 x.f1.f2 x.f1.f3 x.f2 y.f0 y.f1.f0 y.f1.f1 y.f1.f2 y.f1.f3 y.f2) (decide (x = y)) := by
  unfold switchyardref13_SameDead.f
  have e : decide (x = y) = (decide (x.f0 = y.f0) && (decide (x.f2 = y.f2) && decide (x.f1 = y.f1))) := by
    obtain ⟨x0, x1, x2⟩ := x
    obtain ⟨y0, y1, y2⟩ := y
    rw [Bool.eq_iff_iff]
    simp only [S27.mk.injEq, decide_eq_true_eq, Bool.and_eq_true]
    constructor
    · rintro ⟨a, b, c⟩; exact ⟨a, c, b⟩
    · rintro ⟨a, b, c⟩; exact ⟨a, c, b⟩
  rw [e]
  by_cases h1 : x.f0 = y.f0
  · refine Ev.pos h1 ?_
    by_cases h2 : x.f2 = y.f2
    · refine Ev.pos h2 (Ev.bind (mail_ev x y h) (Ev.val ?_))
      simp [h1, h2]
    · refine Ev.neg h2 (Ev.val ?_)
      simp [h2]
  · refine Ev.neg h1 (Ev.val ?_)
    simp [h1]
theorem same_loop19 (l m : List S27) (h : OkA l) (he : l.length = m.length) : ∀ d i : Nat, i + d = l.length → Ev (fun k => switchyardlaw19_Same.l0 k l m (l.length : Int) (i : Int)) (decide (l.drop i = m.drop i)) := by
  have hl := h.1
  intro d
  induction d with
  | zero =>
    intro i hi
    refine Ev.step (fun k => by simp only [switchyardlaw19_Same.l0]; rfl) (Ev.neg (by omega) (Ev.val ?_))
    rw [List.drop_eq_nil_of_le (show l.length ≤ i by omega), List.drop_eq_nil_of_le (show m.length ≤ i by omega)]; simp
  | succ d ih =>
    intro i hi
    have hlt : i < l.length := by omega
    have hml : i < m.length := by omega
    refine Ev.step (fun k => by simp only [switchyardlaw19_Same.l0]; rfl) (Ev.pos (by omega) (Ev.pos (by omega) (Ev.pos (by omega) (Ev.pos (by omega) ?_))))
    rw [rd27_at hlt, rd27_at hml, wr_succ hlt (by omega)]
    refine Ev.bind (sdead_ev _ _ (h.2 _ (List.getElem_mem hlt))) ?_
    rw [List.drop_eq_getElem_cons hlt, List.drop_eq_getElem_cons hml]
    by_cases h : l[i] = m[i]
    · rw [decide_eq_true h]
      have e : decide (l[i] :: l.drop (i + 1) = m[i] :: m.drop (i + 1)) = decide (l.drop (i + 1) = m.drop (i + 1)) := by
        rw [decide_eq_decide, h]; simp only [List.cons.injEq, true_and]
      rw [e]
      exact Ev.pos rfl (ih (i + 1) (by omega))
    · rw [decide_eq_false h]
      have e : decide (l[i] :: l.drop (i + 1) = m[i] :: m.drop (i + 1)) = false := by rw [decide_eq_false_iff_not]; intro hh; exact h (List.cons.inj hh).1
      rw [e]
      exact Ev.neg (by simp) (Ev.now _)
theorem same19_ev (l m : List S27) (h : OkA l) : Ev (fun k => switchyardlaw19_Same.f k l m) (decide (l = m)) := by
  unfold switchyardlaw19_Same.f
  by_cases he : l.length = m.length
  · refine Ev.pos (by omega) ?_
    have := same_loop19 l m h he l.length 0 (by omega)
    simpa using this
  · refine Ev.neg (by omega) (Ev.val ?_)
    rw [eq_comm, decide_eq_false_iff_not]; intro h; exact he (by rw [h])
theorem awake_ev : Ev (fun k => switchyardlaw19_awake.f k) true := by
  have o : OkA [] := ⟨by simp, by simp⟩
  have ov : OkV [] := ⟨by simp, by simp⟩
  unfold switchyardlaw19_awake.f
  refine Ev.bind (put_ev [] ⟨1, ⟨0, ⟨#[]⟩, [], []⟩, 5⟩ 0 o ⟨ov, ov⟩) ?_
  refine Ev.bind (put_ev [] ⟨1, ⟨9, ⟨#[]⟩, [], []⟩, 5⟩ 1 o ⟨ov, ov⟩) ?_
  have e0 : putP [] ⟨1, ⟨0, ⟨#[]⟩, [], []⟩, 5⟩ 0 = ([], 42) := by rfl
  have e1 : putP [] ⟨1, ⟨9, ⟨#[]⟩, [], []⟩, 5⟩ 1 = ([⟨1, ⟨9, ⟨#[]⟩, [], []⟩, 5⟩], 0) := by rfl
  rw [e0, e1]
  refine Ev.bind (find_ev [⟨1, ⟨9, ⟨#[]⟩, [], []⟩, 5⟩] 1 ⟨by simp, fun x hx => by rw [List.mem_singleton.1 hx]; exact ⟨ov, ov⟩⟩) ?_
  have e2 : findP [⟨1, ⟨9, ⟨#[]⟩, [], []⟩, 5⟩] 1 = (1, 9, ⟨#[]⟩, [], [], 5, true) := by rfl
  rw [e2]
  refine Ev.pos rfl (Ev.pos rfl (Ev.pos rfl (Ev.pos rfl ?_)))
  unfold dead_Word.f
  refine Ev.bind (Ev.now _) (Ev.val ?_)
  have : (wordB 4).toList = ([111, 118, 101, 114] : List UInt8) := mkS_toList _
  rw [this]; rfl
end Go.Proofs.YtknbebjphjpgpaaDoor.XD
namespace Go.Proofs.YtknbebjphjpgpaaDoor.XD
open Go.RowKit Go.Proofs.YtknbebjphjpgpaaDoorW.PrintWords Go.Proofs.YtknbebjphjpgpaaDoorW.PrintLast Go.Proofs.YtknbebjphjpgpaaDoorW.PrintMore
set_option linter.unusedVariables false
set_option linter.unusedSimpArgs false
theorem heap37 : Kd.Heap k37 := Kd.heap_iso _ (Kd.heap_pair (Kd.heap_int _) (Kd.heap_pair (Kd.heap_int _) (Kd.heap_pair Kd.heap_string (Kd.heap_slice _ (Kd.heap_int _)))))
theorem heap25 : Kd.Heap k25 := Kd.heap_iso _ (Kd.heap_pair (Kd.heap_int _) (Kd.heap_pair Kd.heap_string (Kd.heap_pair (Kd.heap_slice _ heap37) (Kd.heap_slice _ heap37))))
theorem heap27 : Kd.Heap k27 := Kd.heap_iso _ (Kd.heap_pair (Kd.heap_int _) (Kd.heap_pair heap25 (Kd.heap_int _)))
theorem okV_of {l : List S37} (hl : l.length ≤ 30) (h : ∀ v ∈ l, G37 v) : OkV l := by
  refine ⟨hl, fun v hv => ?_⟩
  cases h v hv with
  | mk h0 h1 h2 h3a h3b h3 =>
    have e : Tryd.prog.bytesOf 2 = 8 := by kernel_rfl
    rw [e] at h3a; omega
theorem okL_of {x : S27} (h2 : x.f1.f2.length ≤ 30) (h3 : x.f1.f3.length ≤ 30) (h : G27 x) : OkL x := by
  cases h with
  | mk g0 g1 g2 => cases g1 with
    | mk a0 a1 a2a a2b a2 a3a a3b a3 => exact ⟨okV_of h2 a2, okV_of h3 a3⟩
theorem okA_of {l : List S27} (h : ∀ x ∈ l, G27 x) (hs : smallB l = true) : OkA l ∧ l.length ≤ 100 := by
  unfold smallB at hs
  rw [List.all_eq_true] at hs
  have hl : l.length ≤ 100 := by
    cases l with
    | nil => simp
    | cons y l => exact (of_decide_eq_true (hs y List.mem_cons_self)).1
  exact ⟨⟨by omega, fun x hx => okL_of (of_decide_eq_true (hs x hx)).2.1 (of_decide_eq_true (hs x hx)).2.2 (h x hx)⟩, hl⟩
theorem okX_of {x : S27} (h2 : ∀ v ∈ x.f1.f2, G37 v) (h3 : ∀ v ∈ x.f1.f3, G37 v) (hs : smallB [x] = true) : OkL x := by
  unfold smallB at hs
  rw [List.all_eq_true] at hs
  have := of_decide_eq_true (hs x List.mem_cons_self)
  exact ⟨okV_of this.2.1 h2, okV_of this.2.2 h3⟩
theorem okA_snoc {l : List S27} {x : S27} (h : OkA l) (hl : l.length ≤ 100) (hx : OkL x) : OkA (l ++ [x]) := by
  refine ⟨by simp; omega, fun y hy => ?_⟩
  rcases List.mem_append.1 hy with hy | hy
  · exact h.2 y hy
  · rw [List.mem_singleton.1 hy]; exact hx
theorem okV_nil : OkV [] := ⟨by simp, by simp⟩
theorem okA_put {l : List S27} {x : S27} {most : Int} (h : OkA l) (hl : l.length ≤ 100) (hx : OkL x) : OkA (putP l x most).1 := by
  unfold putP
  split
  · exact ⟨by simp, by simp⟩
  · split
    · exact ⟨by simp, by simp⟩
    · split
      · exact ⟨by simp, by simp⟩
      · exact okA_snoc h hl hx
theorem okA_drop {l : List S27} {n : Int} (h : OkA l) : OkA (dropP l n).1 := by
  unfold dropP
  split
  · exact ⟨Nat.le_trans (List.length_filter_le _ _) h.1, fun x hx => h.2 x (List.mem_filter.1 hx).1⟩
  · exact ⟨by simp, by simp⟩
theorem okL_find {l : List S27} {n : Int} (h : OkA l) : OkL ⟨(findP l n).1, ⟨(findP l n).2.1, (findP l n).2.2.1, (findP l n).2.2.2.1, (findP l n).2.2.2.2.1⟩, (findP l n).2.2.2.2.2.1⟩ := by
  unfold findP
  rcases hf : l.find? (fun x => x.f0 == n) with _ | x
  · rw [hf]; exact ⟨okV_nil, okV_nil⟩
  · rw [hf]; exact h.2 x (List.mem_of_find?_eq_some hf)
theorem len27 {l : List S27} (h : l.length * Tryd.prog.bytesOf 27 ≤ 140737488351232) : l.length ≤ 4611686018427387904 := by
  have e : Tryd.prog.bytesOf 27 = 88 := by kernel_rfl
  rw [e] at h; omega
/-- A slice that came in, told as one that leads to what stood there. -/
theorem came {α : Type} {d : Kd α} (e : Nat) (hd : Kd.Heap d) {W : World} {A : Option Addr} {c : Nat} {l : List α} (h : Kd.C d W A l.length l) (hc : l.length ≤ c) : Kd.V d e W W.heap.size (fun k => k < W.heap.size) (.slice A l.length c) l := Kd.V_mk hc (Kd.C_F hd h)
end Go.Proofs.YtknbebjphjpgpaaDoor.XD
namespace Go.Proofs.YtknbebjphjpgpaaDoor.XD
open Go.RowKit Go.Proofs.YtknbebjphjpgpaaDoorW.PrintWords Go.Proofs.YtknbebjphjpgpaaDoorW.PrintLast Go.Proofs.YtknbebjphjpgpaaDoorW.PrintMore
attribute [local go_sem] max2_int min2_int max_two min_two max_three min_three max_four min_four   -- for this text's walks alone
set_option linter.unusedVariables false
set_option linter.unusedSimpArgs false
mutual
def switchyardlaw19_DeadPuts.j0 : Nat → List (S27) → Int → Bool → Int → Int → ByteArray → List (S37) → List (S37) → Int → Option (Bool)
  | 0, _, _, _, _, _, _, _, _, _ => none
  | k + 1, x0, x2, x32, x225000, x225001, x225002, x225003, x225004, x225005 => if x32 = true then ((switchyardlaw19_awake.f k).bind fun t231 => (some t231)) else ((dead_Put.f k x0 x225000 x225001 x225002 x225003 x225004 x225005 x2).bind fun bt232 => ((switchyardref19_Put.f k x0 x225000 x225001 x225002 x225003 x225004 x225005 x2).bind fun bt236 => ((dead_Drop.f k x0 x225000).bind fun bt240 => ((switchyardref19_Drop.f k x0 x225000).bind fun bt244 => ((dead_Find.f k x0 x225000).bind fun bt248 => ((switchyardref19_Find.f k x0 x225000).bind fun bt260 => (switchyardlaw19_DeadPuts.l0 k x0 bt232.1 bt232.2 bt236.1 bt236.2 bt240.1 bt240.2 bt244.1 bt244.2 bt248.2.2.2.2.2.2 bt260.2.2.2.2.2.2 0 x0 (x0.length : Int) 0 x225000 x225001 x225002 x225003 x225004 x225005 bt248.1 bt248.2.1 bt248.2.2.1 bt248.2.2.2.1 bt248.2.2.2.2.1 bt248.2.2.2.2.2.1 bt260.1 bt260.2.1 bt260.2.2.1 bt260.2.2.2.1 bt260.2.2.2.2.1 bt260.2.2.2.2.2.1)))))))
def switchyardlaw19_DeadPuts.l0 : Nat → List (S27) → List (S27) → Int → List (S27) → Int → List (S27) → Int → List (S27) → Int → Bool → Bool → Int → List (S27) → Int → Int → Int → Int → ByteArray → List (S37) → List (S37) → Int → Int → Int → ByteArray → List (S37) → List (S37) → Int → Int → Int → ByteArray → List (S37) → List (S37) → Int → Option (Bool)
  | 0, _, _, _, _, _, _, _, _, _, _, _, _, _, _, _, _, _, _, _, _, _, _, _, _, _, _, _, _, _, _, _, _, _ => none
  | k + 1, x0, x7, x8, x9, x10, x11, x12, x13, x14, x16, x18, x19, x86, x87, x88, x225000, x225001, x225002, x225003, x225004, x225005, x260000, x260001, x260002, x260003, x260004, x260005, x272000, x272001, x272002, x272003, x272004, x272005 => if x88 < x87 then (if 0 ≤ x88 then (if x88 < (x86.length : Int) then (if ((rd_T27 x86 x88).f2) = x225005 then (switchyardlaw19_DeadPuts.l0 k x0 x7 x8 x9 x10 x11 x12 x13 x14 x16 x18 (wrap64 (x19 + 1)) x86 x87 (wrap64 (x88 + 1)) x225000 x225001 x225002 x225003 x225004 x225005 x260000 x260001 x260002 x260003 x260004 x260005 x272000 x272001 x272002 x272003 x272004 x272005) else (switchyardlaw19_DeadPuts.l0 k x0 x7 x8 x9 x10 x11 x12 x13 x14 x16 x18 x19 x86 x87 (wrap64 (x88 + 1)) x225000 x225001 x225002 x225003 x225004 x225005 x260000 x260001 x260002 x260003 x260004 x260005 x272000 x272001 x272002 x272003 x272004 x272005)) else (none)) else (none)) else ((switchyardlaw19_awake.f k).bind fun t274 => (if t274 = true then ((switchyardlaw19_Same.f k x7 x9).bind fun t275 => (if t275 = true then (if x8 = x10 then ((switchyardlaw19_Same.f k x11 x13).bind fun t276 => (if t276 = true then (if x12 = x14 then (if (x16 == x18) = true then ((switchyardref13_SameDead.f k x260000 x260001 x260002 x260003 x260004 x260005 x272000 x272001 x272002 x272003 x272004 x272005).bind fun t277 => (if t277 = true then ((dead_Word.f x225005).bind fun t278 => ((switchyardref19_Word.f x225005).bind fun t279 => (if t278.toList = t279.toList then ((dead_Count.f k x0 x225005).bind fun t280 => (some (t280 == x19))) else (none)))) else (none))) else (none)) else (none)) else (none))) else (none)) else (none))) else (none)))
end
def switchyardlaw19_DeadPuts.f (k : Nat) (l0 : List (S27)) (a1_0 : Int) (a1_1 : Int) (a1_2 : ByteArray) (l1_3 : List (S37)) (l1_4 : List (S37)) (a1_5 : Int) (a2 : Int) : Option (Bool) := (switchyardlaw19_awake.f k).bind fun t225 => (if t225 = true then ((switchyardlaw19_small.f k l0).bind fun t226 => (if t226 = true then ((switchyardlaw19_small.f k (([(⟨a1_0, (⟨a1_1, a1_2, l1_3, l1_4⟩ : S25), a1_5⟩ : S27)] : List (S27)))).bind fun t230 => (switchyardlaw19_DeadPuts.j0 k l0 a2 (!t230) a1_0 a1_1 a1_2 l1_3 l1_4 a1_5)) else (switchyardlaw19_DeadPuts.j0 k l0 a2 true a1_0 a1_1 a1_2 l1_3 l1_4 a1_5))) else (none))
def switchyardlaw19_DeadPuts.T18 : Bool × List (List Nat × List Nat) := (true, [([], []), ([0, 0], [0]), ([1], [1]), ([1], [1]), ([2, 3, 1, 1], [1, 2, 3]), ([1, 4], [1, 4]), ([5, 4], [5]), ([6], [6]), ([6], [6]), ([7, 8, 6], [6, 7, 8]), ([6, 9], [6, 9]), ([10, 6], [10]), ([11], [11]), ([11], [11]), ([12, 13, 11, 11], [11, 12, 13]), ([11, 14], [11, 14]), ([15, 14], [15]), ([16], [16]), ([16], [16]), ([17, 18, 16], [16, 17, 18]), ([16, 19], [16, 19]), ([20, 16], [20]), ([21], [21]), ([21], [21]), ([22, 23, 21], [21, 22, 23]), ([21, 24], [21, 24]), ([25, 21], [25]), ([26], [26]), ([26], [26]), ([27, 28, 26, 26], [26, 27, 28]), ([26, 29], [26, 29]), ([30, 29], [30]), ([31], [31]), ([32, 31], [31, 32]), ([33, 31, 31], [31, 33]), ([31], [31]), ([35, 31], [31, 35]), ([36, 34, 31], [31, 36]), ([34, 37, 31], [31, 34, 37]), ([31, 38], [31, 38]), ([39, 37], [39]), ([40], [40]), ([40], [40]), ([42, 40], [40, 42]), ([41, 43, 40, 40], [40, 41, 43]), ([40], [40]), ([44, 45, 40], [40, 44, 45]), ([40, 46], [40, 46]), ([47, 44, 0, 1, 2, 3, 4, 5, 6, 7, 8, 9, 10, 11, 12, 13, 14, 15, 16, 17, 18, 19, 20, 21, 22, 23, 24, 25, 26, 27, 28, 29, 30, 31, 32, 33, 34, 35, 36, 37, 38, 39, 40, 41, 42, 43, 44, 45, 46, 47], [47])])
def switchyardlaw19_DeadPuts.B18 : List Nat := [0, 1, 3, 3, 15, 31, 63, 127, 127, 511, 1023, 2047, 4095, 4095, 16383, 32767, 65535, 131071, 131071, 524287, 1048575, 2097151, 4194303, 4194303, 16777215, 33554431, 67108863, 134217727, 134217727, 536870911, 1073741823, 2147483647, 4294967295, 8589934591, 17179869183, 4294967295, 38654705663, 137438953471, 274877906943, 549755813887, 1099511627775, 2199023255551, 2199023255551, 6597069766655, 17592186044415, 2199023255551, 70368744177663, 140737488355327, 281474976710655]
theorem switchyardlaw19_DeadPuts.tab18 : rtab .any (opsOf Tryd.f5 18) = switchyardlaw19_DeadPuts.T18 := by kernel_rfl
theorem switchyardlaw19_DeadPuts.bits18 : waitsOk switchyardlaw19_DeadPuts.T18.2 switchyardlaw19_DeadPuts.B18 = true := by kernel_rfl
end Go.Proofs.YtknbebjphjpgpaaDoor.XD
