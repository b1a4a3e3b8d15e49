/- switchyard/switchyardlaw19.DeadBack: for every input the law answers true, and its arguments read as before; the listed library tables are tied to the program's text by the given tie. Conditions: none but the card's own. -/
import Derived.Test.YtknbebjphjpgpaaDoorKBack2
import Derived.Test.YtknbebjphjpgpaaDoorRows
import Derived.Test.YtknbebjphjpgpaaDoorCards
import Derived.Test.YtknbebjphjpgpaaDoorTie
import Derived.WalkKit
import Derived.ProofKit
import Derived.OpenShut
import Derived.ShutString
import Derived.ChangeOld
import Derived.Below
import Derived.SizedLaws
import Derived.LaidMore
import Derived.Stop.Joined
import Derived.SevenTiedAt
namespace Go.Proofs.YtknbebjphjpgpaaDoor.XD
open Go.RowKit Go.Proofs.YtknbebjphjpgpaaDoorW.PrintWords Go.Proofs.YtknbebjphjpgpaaDoorW.PrintLast Go.Proofs.YtknbebjphjpgpaaDoorW.PrintMore
attribute [local go_sem] max2_int min2_int max_two min_two max_three min_three max_four min_four   -- for this text's walks alone
set_option linter.unusedVariables false
set_option linter.unusedSimpArgs false
def switchyardlaw19_DeadBack.j0 : Nat → List (S27) → Bool → Int → Int → ByteArray → List (S37) → List (S37) → Int → Option (Bool)
  | 0, _, _, _, _, _, _, _, _ => none
  | k + 1, x0, x21, x282000, x282001, x282002, x282003, x282004, x282005 => if x21 = true then ((switchyardlaw19_awake.f k).bind fun t288 => (some t288)) else ((dead_Put.f k x0 x282000 x282001 x282002 x282003 x282004 x282005 (wrap64 ((x0.length : Int) + 1))).bind fun bt289 => (if bt289.2 = 0 then ((dead_Find.f k bt289.1 x282000).bind fun bt294 => ((dead_Drop.f k bt289.1 x282000).bind fun bt306 => ((switchyardlaw19_awake.f k).bind fun t310 => (if t310 = true then (if bt294.2.2.2.2.2.2 = true then ((switchyardref13_SameDead.f k x282000 x282001 x282002 x282003 x282004 x282005 bt294.1 bt294.2.1 bt294.2.2.1 bt294.2.2.2.1 bt294.2.2.2.2.1 bt294.2.2.2.2.2.1).bind fun t311 => (if t311 = true then (if (bt289.1.length : Int) = (wrap64 ((x0.length : Int) + 1)) then (if 0 ≤ (x0.length : Int) then (if (x0.length : Int) < (bt289.1.length : Int) then ((switchyardref13_SameDead.f k ((rd_T27 bt289.1 (x0.length : Int)).f0) ((rd_T27 bt289.1 (x0.length : Int)).f1.f0) ((rd_T27 bt289.1 (x0.length : Int)).f1.f1) ((rd_T27 bt289.1 (x0.length : Int)).f1.f2) ((rd_T27 bt289.1 (x0.length : Int)).f1.f3) ((rd_T27 bt289.1 (x0.length : Int)).f2) x282000 x282001 x282002 x282003 x282004 x282005).bind fun t313 => (if t313 = true then (if bt306.2 = 0 then ((switchyardlaw19_Same.f k bt306.1 x0).bind fun t314 => (if t314 = true then ((dead_Count.f k bt289.1 x282005).bind fun t315 => ((dead_Count.f k x0 x282005).bind fun t316 => (some (t315 == (wrap64 (t316 + 1)))))) else (none))) else (none)) else (none))) else (none)) else (none)) else (none)) else (none))) else (none)) else (none))))) else ((switchyardlaw19_awake.f k).bind fun t293 => (if t293 = true then (some ((bt289.1.length : Int) == 0)) else (none)))))
def switchyardlaw19_DeadBack.f (k : Nat) (l0 : List (S27)) (a1_0 : Int) (a1_1 : Int) (a1_2 : ByteArray) (l1_3 : List (S37)) (l1_4 : List (S37)) (a1_5 : Int) : Option (Bool) := (switchyardlaw19_awake.f k).bind fun t282 => (if t282 = true then ((switchyardlaw19_small.f k l0).bind fun t283 => (if t283 = true then ((switchyardlaw19_small.f k (([(⟨a1_0, (⟨a1_1, a1_2, l1_3, l1_4⟩ : S25), a1_5⟩ : S27)] : List (S27)))).bind fun t287 => (switchyardlaw19_DeadBack.j0 k l0 (!t287) a1_0 a1_1 a1_2 l1_3 l1_4 a1_5)) else (switchyardlaw19_DeadBack.j0 k l0 true a1_0 a1_1 a1_2 l1_3 l1_4 a1_5))) else (none))
def switchyardlaw19_DeadBack.T10 : Bool × List (List Nat × List Nat) := (true, [([], []), ([0, 0], [0]), ([1], [1]), ([1, 2], [1, 2]), ([3, 1], [3]), ([4], [4]), ([4], [4]), ([5, 6, 4, 4], [4, 5, 6]), ([4, 7], [4, 7]), ([8, 7], [8]), ([9], [9]), ([10, 9], [9, 10]), ([9], [9]), ([12, 9], [9, 12]), ([13, 9], [9, 13]), ([11, 14, 9], [9, 11, 14]), ([9, 15], [9, 15]), ([16, 9], [16]), ([17], [17]), ([17], [17]), ([19, 17], [17, 19]), ([18, 20, 17], [17, 18, 20]), ([21, 17], [17, 21]), ([17], [17]), ([22, 23, 17, 17], [17, 22, 23]), ([17, 24], [17, 24]), ([25, 24], [25]), ([26], [26]), ([27, 26], [26, 27]), ([26, 28], [26, 28]), ([29, 26], [29]), ([30], [30]), ([30], [30]), ([31, 32, 30, 30], [30, 31, 32]), ([30, 33], [30, 33]), ([34, 33], [34]), ([35], [35]), ([35], [35]), ([37, 35], [35, 37]), ([36, 38, 35, 35], [35, 36, 38]), ([35], [35]), ([35], [35]), ([41, 35], [35, 41]), ([40, 42, 39, 35], [35, 40, 42]), ([43, 35], [35, 43]), ([39, 44, 35], [35, 39, 44]), ([35, 45], [35, 45]), ([46, 43, 0, 1, 2, 3, 4, 5, 6, 7, 8, 9, 10, 11, 12, 13, 14, 15, 16, 17, 18, 19, 20, 21, 22, 23, 24, 25, 26, 27, 28, 29, 30, 31, 32, 33, 34, 35, 36, 37, 38, 39, 40, 41, 42, 43, 44, 45, 46], [46])])
def switchyardlaw19_DeadBack.B10 : List Nat := [0, 1, 3, 7, 15, 31, 31, 127, 255, 511, 1023, 2047, 1023, 5119, 13311, 32767, 65535, 131071, 262143, 262143, 786431, 2097151, 4194303, 262143, 16777215, 33554431, 67108863, 134217727, 268435455, 536870911, 1073741823, 2147483647, 2147483647, 8589934591, 17179869183, 34359738367, 68719476735, 68719476735, 206158430207, 549755813887, 68719476735, 68719476735, 2267742732287, 8796093022207, 17592186044415, 35184372088831, 70368744177663, 140737488355327]
theorem switchyardlaw19_DeadBack.tab10 : rtab .any (opsOf Tryd.f6 10) = switchyardlaw19_DeadBack.T10 := by kernel_rfl
theorem switchyardlaw19_DeadBack.bits10 : waitsOk switchyardlaw19_DeadBack.T10.2 switchyardlaw19_DeadBack.B10 = true := by kernel_rfl
set_option maxHeartbeats 600000 in
set_option maxRecDepth 100000 in
theorem switchyardlaw19_DeadBack.calls (k : Nat) (A0 : Option Addr) (c0 : Nat) (l0 : List (S27)) (a1_0 : Int) (a1_1 : Int) (a1_2 : ByteArray) (P1_3_ : Nat → Prop) (A1_3 : Option Addr) (c1_3 : Nat) (l1_3 : List (S37)) (P1_4_ : Nat → Prop) (A1_4 : Option Addr) (c1_4 : Nat) (l1_4 : List (S37)) (a1_5 : Int) (r : Bool) (w : World) (hr0 : Kd.C k27 w A0 l0.length l0) (hc0 : l0.length ≤ c0) (hs1_3 : Kd.V k37 37 w w.heap.size (fun k_ => P1_3_ k_) (.slice A1_3 l1_3.length c1_3) l1_3) (hs1_4 : Kd.V k37 37 w w.heap.size (fun k_ => P1_4_ k_) (.slice A1_4 l1_4.length c1_4) l1_4) (h : switchyardlaw19_DeadBack.f k l0 a1_0 a1_1 a1_2 l1_3 l1_4 a1_5 = some r) (hT : Tabs w) :
    Calls Tryd.prog 6 #[.slice A0 l0.length c0, .agg #[.int .i64 a1_0, .int .i64 a1_1, .string a1_2, .slice A1_3 l1_3.length c1_3, .slice A1_4 l1_4.length c1_4, .int .i64 a1_5]] w fun e w' => e = .returned (.bool r) ∧ Below w.heap.size w w' := by
  have HT := Aside0.mk hT
  clear hT
  have hu27 := Tryd.underlying27
  have hu25 := Tryd.underlying25
  have HR0 := Aside0.mk hr0
  have HC0 := Aside0.mk hc0
  clear hr0 hc0
  have HO1_3 := Aside0.mk (show Kd.V k37 37 w w.heap.size (fun k_ => ((P1_3_ k_ ∨ P1_4_ k_) ∨ w.heap.size ≤ k_)) (.slice A1_3 l1_3.length c1_3) l1_3 from Kd.V_mono hs1_3 (fun k_ hk => .inl (.inl hk)))
  have HO1_4 := Aside0.mk (show Kd.V k37 37 w w.heap.size (fun k_ => ((P1_3_ k_ ∨ P1_4_ k_) ∨ w.heap.size ≤ k_)) (.slice A1_4 l1_4.length c1_4) l1_4 from Kd.V_mono hs1_4 (fun k_ hk => .inl (.inr hk)))
  have HB := Aside0.mk (Below.refl w.heap.size w)
  have H : ((switchyardlaw19_awake.f k).bind fun t282 => (if t282 = true then ((switchyardlaw19_small.f k l0).bind fun t283 => (if t283 = true then ((switchyardlaw19_small.f k (([(⟨a1_0, (⟨a1_1, a1_2, l1_3, l1_4⟩ : S25), a1_5⟩ : S27)] : List (S27)))).bind fun t287 => (switchyardlaw19_DeadBack.j0 k l0 (!t287) a1_0 a1_1 a1_2 l1_3 l1_4 a1_5)) else (switchyardlaw19_DeadBack.j0 k l0 true a1_0 a1_1 a1_2 l1_3 l1_4 a1_5))) else (none))) = some r := h
  clear h
  replace H := Option.bind_eq_some_iff.mp H
  obtain ⟨t282, A30, H⟩ := H
  replace H : (if t282 = true then ((switchyardlaw19_small.f k l0).bind fun t283 => (if t283 = true then ((switchyardlaw19_small.f k (([(⟨a1_0, (⟨a1_1, a1_2, l1_3, l1_4⟩ : S25), a1_5⟩ : S27)] : List (S27)))).bind fun t287 => (switchyardlaw19_DeadBack.j0 k l0 (!t287) a1_0 a1_1 a1_2 l1_3 l1_4 a1_5)) else (switchyardlaw19_DeadBack.j0 k l0 true a1_0 a1_1 a1_2 l1_3 l1_4 a1_5))) else (none)) = some r := H
  have A3 := Aside0.mk A30
  clear A30
  by_cases c4 : t282 = true
  · subst c4
    have H1 : ((switchyardlaw19_small.f k l0).bind fun t283 => (if t283 = true then ((switchyardlaw19_small.f k (([(⟨a1_0, (⟨a1_1, a1_2, l1_3, l1_4⟩ : S25), a1_5⟩ : S27)] : List (S27)))).bind fun t287 => (switchyardlaw19_DeadBack.j0 k l0 (!t287) a1_0 a1_1 a1_2 l1_3 l1_4 a1_5)) else (switchyardlaw19_DeadBack.j0 k l0 true a1_0 a1_1 a1_2 l1_3 l1_4 a1_5))) = some r := by rw [if_pos rfl] at H; exact H
    clear H
    have H := H1
    clear H1
    have HC5 := Aside0.mk H
    clear H
    go_enter Tryd.func6, Tryd.ntmps6
    go_upto_region 3 with (first | ((with_reducible refine gate_dst (N := 3) rfl ?_); (try (refine gate_guard (by rfl) ?_; dsimp only)); refine box_event ?hg (N := 3) ?hd (cs := #[.int .i64 a1_0, .int .i64 a1_1, .string a1_2, .slice A1_3 l1_3.length c1_3, .slice A1_4 l1_4.length c1_4, .int .i64 a1_5]) (t := 27) ?hr ?_; (case hd => rfl); (case hg => rfl); (case hr => first | (go_simp; done) | (go_simp; rfl)); intro gb281 hg w6 hbox hb; have n0_ := Aside0.mk (Kd.V_below (Kd.V_elderB (by (with_reducible repeat (first | apply Kd.V_alloc | apply Kd.V_drewN | apply Kd.V_drew)); exact HO1_3.out) gb281 (Nat.le_of_eq hg.symm)) hb); have n1_ := Aside0.mk (Kd.V_below (Kd.V_elderB (by (with_reducible repeat (first | apply Kd.V_alloc | apply Kd.V_drewN | apply Kd.V_drew)); exact HO1_4.out) gb281 (Nat.le_of_eq hg.symm)) hb); have n2_ := Aside0.mk (below_step (by repeat (first | (with_reducible first | exact HB.out | apply below_alloc | apply pw_below_drewN | apply below_drew1) | exact HB.out)) hb); have n3_ := Aside0.mk (hbox); have n4_ := Aside0.mk ((by rw [hg]; exact (below_size (by repeat (first | (with_reducible first | exact HB.out | apply below_alloc | apply pw_below_drewN | apply below_drew1) | exact HB.out))) : w.heap.size ≤ gb281)); have n5_ := Aside0.mk ((by rw [hg]; exact (below_size (by repeat (first | (with_reducible first | exact HB.out | apply below_alloc | apply pw_below_drewN | apply below_drew1) | exact HB.out))) : w.heap.size ≤ gb281)); clear HO1_3; clear HO1_4; clear HB; have HO1_3 := n0_; have HO1_4 := n1_; have HB := n2_; have BK281 := n3_; have GW281 := n4_; have GE281 := n5_; clear n0_ n1_ n2_ n3_ n4_ n5_; clear hb hbox hg) | ((with_reducible refine gate_callee (f := 7) rfl ?_); refine goesL_ (some 11) rfl rfl Tryd.func7 (by kernel_rfl) rfl #[] rfl (by (try simp only [List.map_toArray, List.map_cons, List.map_nil]); first | done | rfl | (simp only [List.length_drop, List.length_take]; rfl)) ?_; (with_reducible refine (switchyardlaw19_awake.calls k  true _ A3.out (Tabs.below HT.out (by repeat (first | (with_reducible first | exact HB.out | apply below_alloc | apply pw_below_drewN | apply below_drew1 | refine below_set ?_ GE281.out) | exact HB.out)))).mono ?_); rintro e w7 ⟨rfl, hb⟩; refine ⟨_, rfl, ?_⟩; have n0_ := Aside0.mk (Kd.V_below (by (with_reducible repeat (first | apply Kd.V_alloc | apply Kd.V_drewN | apply Kd.V_drew)); exact HO1_3.out) hb); have n1_ := Aside0.mk (Kd.V_below (by (with_reducible repeat (first | apply Kd.V_alloc | apply Kd.V_drewN | apply Kd.V_drew)); exact HO1_4.out) hb); have n2_ := Aside0.mk (blk_below (g := gb281) (o := .cells #[.int .i64 a1_0, .int .i64 a1_1, .string a1_2, .slice A1_3 l1_3.length c1_3, .slice A1_4 l1_4.length c1_4, .int .i64 a1_5] 27 (0, 0)) (by (with_reducible repeat (first | refine blk_drewN ?_ _ | refine blk_drew ?_ | refine blk_alloc ?_ _)); exact BK281.out) hb); have n3_ := Aside0.mk (below_step (by repeat (first | (with_reducible first | exact HB.out | apply below_alloc | apply pw_below_drewN | apply below_drew1 | refine below_set ?_ GE281.out) | exact HB.out)) hb); clear HO1_3; clear HO1_4; clear BK281; clear HB; have HO1_3 := n0_; have HO1_4 := n1_; have BK281 := n2_; have HB := n3_; clear n0_ n1_ n2_ n3_; (try clear hb); (try clear hb2); (try clear hk); (try clear hi)))
    (try simp only [Act.put, List.setIfInBounds_toArray, List.set_cons_zero, List.set_cons_succ])
    go_cut [21] (fun v21 wc => ∃ (kq : Nat) (x21_4 : Bool), v21 = .bool x21_4 ∧ Aside0 (switchyardlaw19_DeadBack.j0 kq l0 x21_4 a1_0 a1_1 a1_2 l1_3 l1_4 a1_5 = some r) ∧ Aside0 (kq ≤ k) ∧ Aside0 (Kd.V k37 37 wc w.heap.size (fun k_ => ((P1_3_ k_ ∨ P1_4_ k_) ∨ w.heap.size ≤ k_) ∧ k_ ≠ gb281) (.slice A1_3 l1_3.length c1_3) l1_3) ∧ Aside0 (Kd.V k37 37 wc w.heap.size (fun k_ => ((P1_3_ k_ ∨ P1_4_ k_) ∨ w.heap.size ≤ k_) ∧ k_ ≠ gb281) (.slice A1_4 l1_4.length c1_4) l1_4) ∧ Aside0 (wc.heap[gb281]? = some (.cells #[.int .i64 a1_0, .int .i64 a1_1, .string a1_2, (.slice A1_3 l1_3.length c1_3), (.slice A1_4 l1_4.length c1_4), .int .i64 a1_5] 27 (0, 0))) ∧ Aside0 (Below w.heap.size w wc))
    case first =>
      have H := HC5.out
      clear HC5
      replace H := Option.bind_eq_some_iff.mp H
      obtain ⟨t283, A80, H⟩ := H
      replace H : (if t283 = true then ((switchyardlaw19_small.f k (([(⟨a1_0, (⟨a1_1, a1_2, l1_3, l1_4⟩ : S25), a1_5⟩ : S27)] : List (S27)))).bind fun t287 => (switchyardlaw19_DeadBack.j0 k l0 (!t287) a1_0 a1_1 a1_2 l1_3 l1_4 a1_5)) else (switchyardlaw19_DeadBack.j0 k l0 true a1_0 a1_1 a1_2 l1_3 l1_4 a1_5)) = some r := H
      have A8 := Aside0.mk A80
      clear A80
      by_cases c9 : t283 = true
      · subst c9
        have H1 : ((switchyardlaw19_small.f k (([(⟨a1_0, (⟨a1_1, a1_2, l1_3, l1_4⟩ : S25), a1_5⟩ : S27)] : List (S27)))).bind fun t287 => (switchyardlaw19_DeadBack.j0 k l0 (!t287) a1_0 a1_1 a1_2 l1_3 l1_4 a1_5)) = some r := by rw [if_pos rfl] at H; exact H
        clear H
        have H := H1
        clear H1
        obtain ⟨y284, hy284⟩ : ∃ y_ : List (S27), y_ = (([(⟨a1_0, (⟨a1_1, a1_2, l1_3, l1_4⟩ : S25), a1_5⟩ : S27)] : List (S27))) := ⟨_, rfl⟩
        replace H : ((switchyardlaw19_small.f k y284).bind fun t287 => (switchyardlaw19_DeadBack.j0 k l0 (!t287) a1_0 a1_1 a1_2 l1_3 l1_4 a1_5)) = some r := by first | (rw [hy284]; with_reducible exact H) | (have H2_ := (Option.bind_some _ _).symm.trans H; rw [hy284]; with_reducible exact H2_) | (have H2_ := (Option.bind_some _ _).symm.trans H; with_reducible exact H2_) | with_reducible exact H | (rw [hy284]; exact H) | exact H
        have Ny284 := Aside0.mk hy284
        clear hy284
        replace H := Option.bind_eq_some_iff.mp H
        obtain ⟨t287, A100, H⟩ := H
        replace H : (switchyardlaw19_DeadBack.j0 k l0 (!t287) a1_0 a1_1 a1_2 l1_3 l1_4 a1_5) = some r := H
        have A10 := Aside0.mk A100
        clear A100
        have H' := Aside0.mk H
        clear H
        go_wp2_with (first | ((with_reducible refine gate_callee (f := 8) rfl ?_); refine goesL_ (some 14) rfl rfl Tryd.func8 (by kernel_rfl) rfl #[.slice A0 l0.length c0] rfl (by (try simp only [List.map_toArray, List.map_cons, List.map_nil]); first | done | rfl | (simp only [List.length_drop, List.length_take]; rfl)) ?_; (with_reducible refine (switchyardlaw19_small.calls k _ _ l0 true _ ?side1 ?side2 A8.out).mono ?_); (case side1 => repeat (first | exact (Kd.C_below HR0.out HB.out) | (with_reducible refine Kd.C_alloc ?_ _) | (with_reducible refine Kd.C_drewN ?_ _) | (with_reducible refine Kd.C_drew ?_))); (case side2 => exact HC0.out); rintro e w11 ⟨rfl, hb⟩; refine ⟨_, rfl, ?_⟩; have n0_ := Aside0.mk (Kd.V_below (by (with_reducible repeat (first | apply Kd.V_alloc | apply Kd.V_drewN | apply Kd.V_drew)); exact HO1_3.out) hb); have n1_ := Aside0.mk (Kd.V_below (by (with_reducible repeat (first | apply Kd.V_alloc | apply Kd.V_drewN | apply Kd.V_drew)); exact HO1_4.out) hb); have n2_ := Aside0.mk (blk_below (g := gb281) (o := .cells #[.int .i64 a1_0, .int .i64 a1_1, .string a1_2, .slice A1_3 l1_3.length c1_3, .slice A1_4 l1_4.length c1_4, .int .i64 a1_5] 27 (0, 0)) (by (with_reducible repeat (first | refine blk_drewN ?_ _ | refine blk_drew ?_ | refine blk_alloc ?_ _)); exact BK281.out) hb); have n3_ := Aside0.mk (below_step (by repeat (first | (with_reducible first | exact HB.out | apply below_alloc | apply pw_below_drewN | apply below_drew1 | refine below_set ?_ GE281.out) | exact HB.out)) hb); clear HO1_3; clear HO1_4; clear BK281; clear HB; have HO1_3 := n0_; have HO1_4 := n1_; have BK281 := n2_; have HB := n3_; clear n0_ n1_ n2_ n3_; (try clear hb); (try clear hb2); (try clear hk); (try clear hi); have hcz12_0 : w11.cell? ⟨gb281, 0, none⟩ = some (.int .i64 a1_0) := (blk_cell BK281.out 0).trans rfl; have hcz12_1 : w11.cell? ⟨gb281, 1, none⟩ = some (.int .i64 a1_1) := (blk_cell BK281.out 1).trans rfl; have hcz12_2 : w11.cell? ⟨gb281, 2, none⟩ = some (.string a1_2) := (blk_cell BK281.out 2).trans rfl; have hcz12_3 : w11.cell? ⟨gb281, 3, none⟩ = some (.slice A1_3 l1_3.length c1_3) := (blk_cell BK281.out 3).trans rfl; have hcz12_4 : w11.cell? ⟨gb281, 4, none⟩ = some (.slice A1_4 l1_4.length c1_4) := (blk_cell BK281.out 4).trans rfl; have hcz12_5 : w11.cell? ⟨gb281, 5, none⟩ = some (.int .i64 a1_5) := (blk_cell BK281.out 5).trans rfl; have hfz12_0 := blk_frozen BK281.out 0; have hfz12_1 := blk_frozen BK281.out 1; have hfz12_2 := blk_frozen BK281.out 2; have hfz12_3 := blk_frozen BK281.out 3; have hfz12_4 := blk_frozen BK281.out 4; have hfz12_5 := blk_frozen BK281.out 5) | ((with_reducible refine gate_dst (N := 18) rfl ?_); (try (refine gate_guard (by rfl) ?_; dsimp only)); refine Kd.N_lit k27 _ 27 ?hg (N' := 18) ?hd (xs := ([(⟨a1_0, (⟨a1_1, a1_2, l1_3, l1_4⟩ : S25), a1_5⟩ : S27)] : List (S27))) (inner := [.int .i64 a1_0, .int .i64 a1_1, .string a1_2, .slice A1_3 l1_3.length c1_3, .slice A1_4 l1_4.length c1_4, .int .i64 a1_5]) (ok := (fun k_ => ((P1_3_ k_ ∨ P1_4_ k_) ∨ w.heap.size ≤ k_) ∧ k_ ≠ gb281)) (okp := (fun k_ => ((P1_3_ k_ ∨ P1_4_ k_) ∨ w.heap.size ≤ k_) ∧ k_ ≠ gb281)) ?hr ?hp (fun _ hk => hk) ((show ∀ k_, w11.heap.size ≤ k_ → (fun k_ => ((P1_3_ k_ ∨ P1_4_ k_) ∨ w.heap.size ≤ k_) ∧ k_ ≠ gb281) k_ from fun k_ hk => ⟨(.inr (Nat.le_trans (below_size (by repeat (first | (with_reducible first | exact HB.out | apply below_alloc | apply pw_below_drewN | apply below_drew1 | refine below_set ?_ GE281.out) | exact HB.out))) hk)), Kd.freshB (g := gb281) (o := .cells #[.int .i64 a1_0, .int .i64 a1_1, .string a1_2, .slice A1_3 l1_3.length c1_3, .slice A1_4 l1_4.length c1_4, .int .i64 a1_5] 27 (0, 0)) (by (with_reducible repeat (first | refine blk_drewN ?_ _ | refine blk_drew ?_ | refine blk_alloc ?_ _)); exact BK281.out) k_ hk⟩) _ (Nat.le_refl _)) (Below.refl _ _) (Nat.le_refl _) (by simp) ?_; (case hd => rfl); (case hg => rfl); (case hr => first | (go_simp; done) | (go_simp; rfl)); (case hp => exact (Reps.c6 (show Kd.FK k27 _ _ (⟨a1_0, (⟨a1_1, a1_2, l1_3, l1_4⟩ : S25), a1_5⟩ : S27) [.int .i64 a1_0, .int .i64 a1_1, .string a1_2, .slice A1_3 l1_3.length c1_3, .slice A1_4 l1_4.length c1_4, .int .i64 a1_5] from (k27_mkF _ _ (⟨a1_0, (⟨a1_1, a1_2, l1_3, l1_4⟩ : S25), a1_5⟩ : S27) (Kd.V_reads' (Kd.V_mono (ok' := (fun k_ => ((P1_3_ k_ ∨ P1_4_ k_) ∨ w.heap.size ≤ k_) ∧ k_ ≠ gb281)) (HO1_3.out) (fun k_ hk => ⟨hk.1, hk.2⟩))).2.1 (Kd.V_F (Kd.V_mono (ok' := (fun k_ => ((P1_3_ k_ ∨ P1_4_ k_) ∨ w.heap.size ≤ k_) ∧ k_ ≠ gb281)) (HO1_3.out) (fun k_ hk => ⟨hk.1, hk.2⟩))) (Kd.V_reads' (Kd.V_mono (ok' := (fun k_ => ((P1_3_ k_ ∨ P1_4_ k_) ∨ w.heap.size ≤ k_) ∧ k_ ≠ gb281)) (HO1_4.out) (fun k_ hk => ⟨hk.1, hk.2⟩))).2.1 (Kd.V_F (Kd.V_mono (ok' := (fun k_ => ((P1_3_ k_ ∨ P1_4_ k_) ∨ w.heap.size ≤ k_) ∧ k_ ≠ gb281)) (HO1_4.out) (fun k_ hk => ⟨hk.1, hk.2⟩))))) (Reps.none _ _))); intro v285 w13 ho14 hb hg_ hnew_; clear hg_ hnew_; (first | rw [← Ny284.out] at ho14 | (simp only [Int.reduceToNat] at ho14; rw [← Ny284.out] at ho14)); have n0_ := Aside0.mk (Kd.V_elder' (by (with_reducible repeat (first | apply Kd.V_alloc | apply Kd.V_drewN | apply Kd.V_drew)); exact HO1_3.out) (Kd.N_base ho14) hb); have n1_ := Aside0.mk (Kd.V_elder' (by (with_reducible repeat (first | apply Kd.V_alloc | apply Kd.V_drewN | apply Kd.V_drew)); exact HO1_4.out) (Kd.N_base ho14) hb); have n2_ := Aside0.mk (Kd.N_lower ho14 (below_size (by repeat (first | (with_reducible first | exact HB.out | apply below_alloc | apply pw_below_drewN | apply below_drew1 | refine below_set ?_ GE281.out) | exact HB.out)))); have n3_ := Aside0.mk (blk_below (g := gb281) (o := .cells #[.int .i64 a1_0, .int .i64 a1_1, .string a1_2, .slice A1_3 l1_3.length c1_3, .slice A1_4 l1_4.length c1_4, .int .i64 a1_5] 27 (0, 0)) (by (with_reducible repeat (first | refine blk_drewN ?_ _ | refine blk_drew ?_ | refine blk_alloc ?_ _)); exact BK281.out) hb); have n4_ := Aside0.mk (below_step (by repeat (first | (with_reducible first | exact HB.out | apply below_alloc | apply pw_below_drewN | apply below_drew1 | refine below_set ?_ GE281.out) | exact HB.out)) hb); clear HO1_3; clear HO1_4; clear BK281; clear HB; have HO1_3 := n0_; have HO1_4 := n1_; have HO286 := n2_; have BK281 := n3_; have HB := n4_; clear n0_ n1_ n2_ n3_ n4_; clear hb ho14; obtain ⟨Ao15, co15, eo15⟩ := Kd.N_slice HO286.out; subst eo15) | (go_at_call 8; refine calls_of_args (args' := #[.slice Ao15 y284.length co15]) (by first | rfl) ?_; (with_reducible refine (switchyardlaw19_small.calls k _ _ y284 t287 _ ?side1 ?side2 A10.out).mono ?_); (case side1 => repeat (first | exact (Kd.N_reads' HO286.out).2.2 | (with_reducible refine Kd.C_alloc ?_ _) | (with_reducible refine Kd.C_drewN ?_ _) | (with_reducible refine Kd.C_drew ?_))); (case side2 => exact (Kd.N_reads' HO286.out).2.1); rintro e w16 ⟨rfl, hb⟩; have n0_ := Aside0.mk (Kd.V_below (by (with_reducible repeat (first | apply Kd.V_alloc | apply Kd.V_drewN | apply Kd.V_drew)); exact HO1_3.out) hb); have n1_ := Aside0.mk (Kd.V_below (by (with_reducible repeat (first | apply Kd.V_alloc | apply Kd.V_drewN | apply Kd.V_drew)); exact HO1_4.out) hb); have n2_ := Aside0.mk (Kd.N_below (by (with_reducible repeat (first | apply Kd.N_alloc | apply Kd.N_drewN | apply Kd.N_drew)); exact HO286.out) hb); have n3_ := Aside0.mk (blk_below (g := gb281) (o := .cells #[.int .i64 a1_0, .int .i64 a1_1, .string a1_2, .slice A1_3 l1_3.length c1_3, .slice A1_4 l1_4.length c1_4, .int .i64 a1_5] 27 (0, 0)) (by (with_reducible repeat (first | refine blk_drewN ?_ _ | refine blk_drew ?_ | refine blk_alloc ?_ _)); exact BK281.out) hb); have n4_ := Aside0.mk (below_step (by repeat (first | (with_reducible first | exact HB.out | apply below_alloc | apply pw_below_drewN | apply below_drew1 | refine below_set ?_ GE281.out) | exact HB.out)) hb); clear HO1_3; clear HO1_4; clear HO286; clear BK281; clear HB; have HO1_3 := n0_; have HO1_4 := n1_; have HO286 := n2_; have BK281 := n3_; have HB := n4_; clear n0_ n1_ n2_ n3_ n4_; (try clear hb); (try clear hb2); (try clear hk); (try clear hi)))
        go_meet
        case rel => exact ⟨_, (!t287), (by first | rfl | (simp; done) | (simp [*]; done)), H', ⟨by first | omega | exact Nat.le_refl _⟩, ⟨by (with_reducible repeat (first | apply Kd.V_alloc | apply Kd.V_drewN | apply Kd.V_drew)); exact Kd.V_mono HO1_3.out (fun _ hk => ⟨hk.1.1, hk.1.2⟩)⟩, ⟨by (with_reducible repeat (first | apply Kd.V_alloc | apply Kd.V_drewN | apply Kd.V_drew)); exact Kd.V_mono HO1_4.out (fun _ hk => ⟨hk.1.1, hk.1.2⟩)⟩, ⟨by (with_reducible repeat (first | refine blk_drewN ?_ _ | refine blk_drew ?_ | refine blk_alloc ?_ _)); exact BK281.out⟩, ⟨by repeat (first | (with_reducible first | exact HB.out | apply below_alloc | apply pw_below_drewN | apply below_drew1 | refine below_set ?_ GE281.out) | exact HB.out)⟩⟩
      · replace c9 := Bool.eq_false_iff.mpr c9
        subst c9
        have H1 : (switchyardlaw19_DeadBack.j0 k l0 true a1_0 a1_1 a1_2 l1_3 l1_4 a1_5) = some r := by rw [if_neg (show ¬ (false = true) by decide)] at H; exact H
        clear H
        have H := H1
        clear H1
        have H' := Aside0.mk H
        clear H
        go_wp2_with (first | ((with_reducible refine gate_callee (f := 8) rfl ?_); refine goesL_ (some 14) rfl rfl Tryd.func8 (by kernel_rfl) rfl #[.slice A0 l0.length c0] rfl (by (try simp only [List.map_toArray, List.map_cons, List.map_nil]); first | done | rfl | (simp only [List.length_drop, List.length_take]; rfl)) ?_; (with_reducible refine (switchyardlaw19_small.calls k _ _ l0 false _ ?side1 ?side2 A8.out).mono ?_); (case side1 => repeat (first | exact (Kd.C_below HR0.out HB.out) | (with_reducible refine Kd.C_alloc ?_ _) | (with_reducible refine Kd.C_drewN ?_ _) | (with_reducible refine Kd.C_drew ?_))); (case side2 => exact HC0.out); rintro e w17 ⟨rfl, hb⟩; refine ⟨_, rfl, ?_⟩; have n0_ := Aside0.mk (Kd.V_below (by (with_reducible repeat (first | apply Kd.V_alloc | apply Kd.V_drewN | apply Kd.V_drew)); exact HO1_3.out) hb); have n1_ := Aside0.mk (Kd.V_below (by (with_reducible repeat (first | apply Kd.V_alloc | apply Kd.V_drewN | apply Kd.V_drew)); exact HO1_4.out) hb); have n2_ := Aside0.mk (blk_below (g := gb281) (o := .cells #[.int .i64 a1_0, .int .i64 a1_1, .string a1_2, .slice A1_3 l1_3.length c1_3, .slice A1_4 l1_4.length c1_4, .int .i64 a1_5] 27 (0, 0)) (by (with_reducible repeat (first | refine blk_drewN ?_ _ | refine blk_drew ?_ | refine blk_alloc ?_ _)); exact BK281.out) hb); have n3_ := Aside0.mk (below_step (by repeat (first | (with_reducible first | exact HB.out | apply below_alloc | apply pw_below_drewN | apply below_drew1 | refine below_set ?_ GE281.out) | exact HB.out)) hb); clear HO1_3; clear HO1_4; clear BK281; clear HB; have HO1_3 := n0_; have HO1_4 := n1_; have BK281 := n2_; have HB := n3_; clear n0_ n1_ n2_ n3_; (try clear hb); (try clear hb2); (try clear hk); (try clear hi)))
        go_meet
        case rel => exact ⟨_, (true), (by first | rfl | (simp; done) | (simp [*]; done)), H', ⟨by first | omega | exact Nat.le_refl _⟩, ⟨by (with_reducible repeat (first | apply Kd.V_alloc | apply Kd.V_drewN | apply Kd.V_drew)); exact HO1_3.out⟩, ⟨by (with_reducible repeat (first | apply Kd.V_alloc | apply Kd.V_drewN | apply Kd.V_drew)); exact HO1_4.out⟩, ⟨by (with_reducible repeat (first | refine blk_drewN ?_ _ | refine blk_drew ?_ | refine blk_alloc ?_ _)); exact BK281.out⟩, ⟨by repeat (first | (with_reducible first | exact HB.out | apply below_alloc | apply pw_below_drewN | apply below_drew1 | refine below_set ?_ GE281.out) | exact HB.out)⟩⟩
    case rest =>
      clear HC5
      try clear c1
      try clear p2
      try clear c4
      try clear c6
      try clear c7
      try clear c8
      try clear c9
      try clear hcz12_0
      try clear hcz12_1
      try clear hcz12_2
      try clear hcz12_3
      try clear hcz12_4
      try clear hcz12_5
      try clear hfz12_0
      try clear hfz12_1
      try clear hfz12_2
      try clear hfz12_3
      try clear hfz12_4
      try clear hfz12_5
      obtain ⟨kq, x21_4, rfl, HA, HJ4, HO_282003, HO_282004, BK281, HB⟩ := hcut
      cases kq with
      | zero => exact absurd HA.out (by simp [switchyardlaw19_DeadBack.j0])
      | succ kj4 =>
        have H := HA.out
        clear HA
        simp only [switchyardlaw19_DeadBack.j0] at H
        by_cases c18 : x21_4 = true
        · subst c18
          have H1 : ((switchyardlaw19_awake.f kj4).bind fun t288 => (some t288)) = some r := by rw [if_pos rfl] at H; exact H
          clear H
          have H := H1
          clear H1
          replace H := Option.bind_eq_some_iff.mp H
          obtain ⟨t288, A190, H⟩ := H
          replace H : (some t288) = some r := H
          have A19 := Aside0.mk A190
          clear A190
          obtain rfl := Option.some.inj H
          go_wp2_with (first | ((with_reducible refine gate_callee (f := 7) rfl ?_); refine goesL_ (some 22) rfl rfl Tryd.func7 (by kernel_rfl) rfl #[] rfl (by (try simp only [List.map_toArray, List.map_cons, List.map_nil]); first | done | rfl | (simp only [List.length_drop, List.length_take]; rfl)) ?_; (with_reducible refine (switchyardlaw19_awake.calls kj4  t288 _ A19.out (Tabs.below HT.out (by repeat (first | (with_reducible first | exact HB.out | apply below_alloc | apply pw_below_drewN | apply below_drew1 | refine below_set ?_ GE281.out) | exact HB.out)))).mono ?_); rintro e w20 ⟨rfl, hb⟩; refine ⟨_, rfl, ?_⟩; have n0_ := Aside0.mk (Kd.V_below (by (with_reducible repeat (first | apply Kd.V_alloc | apply Kd.V_drewN | apply Kd.V_drew)); exact HO_282003.out) hb); have n1_ := Aside0.mk (Kd.V_below (by (with_reducible repeat (first | apply Kd.V_alloc | apply Kd.V_drewN | apply Kd.V_drew)); exact HO_282004.out) hb); have n2_ := Aside0.mk (blk_below (g := gb281) (o := .cells #[.int .i64 a1_0, .int .i64 a1_1, .string a1_2, .slice A1_3 l1_3.length c1_3, .slice A1_4 l1_4.length c1_4, .int .i64 a1_5] 27 (0, 0)) (by (with_reducible repeat (first | refine blk_drewN ?_ _ | refine blk_drew ?_ | refine blk_alloc ?_ _)); exact BK281.out) hb); have n3_ := Aside0.mk (below_step (by repeat (first | (with_reducible first | exact HB.out | apply below_alloc | apply pw_below_drewN | apply below_drew1 | refine below_set ?_ GE281.out) | exact HB.out)) hb); clear HO_282003; clear HO_282004; clear BK281; clear HB; have HO_282003 := n0_; have HO_282004 := n1_; have BK281 := n2_; have HB := n3_; clear n0_ n1_ n2_ n3_; (try clear hb); (try clear hb2); (try clear hk); (try clear hi)))
          go_ret
          exact ⟨by first | rfl | (simp [errW_none, errW_some] <;> rfl) | (simp [*, errW_none, errW_some] <;> rfl), by repeat (first | (with_reducible first | exact HB.out | apply below_alloc | apply pw_below_drewN | apply below_drew1 | refine below_set ?_ GE281.out) | exact HB.out)⟩
        · replace c18 := Bool.eq_false_iff.mpr c18
          subst c18
          have H1 : ((dead_Put.f kj4 l0 a1_0 a1_1 a1_2 l1_3 l1_4 a1_5 (wrap64 ((l0.length : Int) + 1))).bind fun bt289 => (if bt289.2 = 0 then ((dead_Find.f kj4 bt289.1 a1_0).bind fun bt294 => ((dead_Drop.f kj4 bt289.1 a1_0).bind fun bt306 => ((switchyardlaw19_awake.f kj4).bind fun t310 => (if t310 = true then (if bt294.2.2.2.2.2.2 = true then ((switchyardref13_SameDead.f kj4 a1_0 a1_1 a1_2 l1_3 l1_4 a1_5 bt294.1 bt294.2.1 bt294.2.2.1 bt294.2.2.2.1 bt294.2.2.2.2.1 bt294.2.2.2.2.2.1).bind fun t311 => (if t311 = true then (if (bt289.1.length : Int) = (wrap64 ((l0.length : Int) + 1)) then (if 0 ≤ (l0.length : Int) then (if (l0.length : Int) < (bt289.1.length : Int) then ((switchyardref13_SameDead.f kj4 ((rd_T27 bt289.1 (l0.length : Int)).f0) ((rd_T27 bt289.1 (l0.length : Int)).f1.f0) ((rd_T27 bt289.1 (l0.length : Int)).f1.f1) ((rd_T27 bt289.1 (l0.length : Int)).f1.f2) ((rd_T27 bt289.1 (l0.length : Int)).f1.f3) ((rd_T27 bt289.1 (l0.length : Int)).f2) a1_0 a1_1 a1_2 l1_3 l1_4 a1_5).bind fun t313 => (if t313 = true then (if bt306.2 = 0 then ((switchyardlaw19_Same.f kj4 bt306.1 l0).bind fun t314 => (if t314 = true then ((dead_Count.f kj4 bt289.1 a1_5).bind fun t315 => ((dead_Count.f kj4 l0 a1_5).bind fun t316 => (some (t315 == (wrap64 (t316 + 1)))))) else (none))) else (none)) else (none))) else (none)) else (none)) else (none)) else (none))) else (none)) else (none))))) else ((switchyardlaw19_awake.f kj4).bind fun t293 => (if t293 = true then (some ((bt289.1.length : Int) == 0)) else (none))))) = some r := by rw [if_neg (show ¬ (false = true) by decide)] at H; exact H
          clear H
          have H := H1
          clear H1
          replace H := Option.bind_eq_some_iff.mp H
          obtain ⟨⟨t289, t292⟩, A210, H⟩ := H
          replace H : (if t292 = 0 then ((dead_Find.f kj4 t289 a1_0).bind fun bt294 => ((dead_Drop.f kj4 t289 a1_0).bind fun bt306 => ((switchyardlaw19_awake.f kj4).bind fun t310 => (if t310 = true then (if bt294.2.2.2.2.2.2 = true then ((switchyardref13_SameDead.f kj4 a1_0 a1_1 a1_2 l1_3 l1_4 a1_5 bt294.1 bt294.2.1 bt294.2.2.1 bt294.2.2.2.1 bt294.2.2.2.2.1 bt294.2.2.2.2.2.1).bind fun t311 => (if t311 = true then (if (t289.length : Int) = (wrap64 ((l0.length : Int) + 1)) then (if 0 ≤ (l0.length : Int) then (if (l0.length : Int) < (t289.length : Int) then ((switchyardref13_SameDead.f kj4 ((rd_T27 t289 (l0.length : Int)).f0) ((rd_T27 t289 (l0.length : Int)).f1.f0) ((rd_T27 t289 (l0.length : Int)).f1.f1) ((rd_T27 t289 (l0.length : Int)).f1.f2) ((rd_T27 t289 (l0.length : Int)).f1.f3) ((rd_T27 t289 (l0.length : Int)).f2) a1_0 a1_1 a1_2 l1_3 l1_4 a1_5).bind fun t313 => (if t313 = true then (if bt306.2 = 0 then ((switchyardlaw19_Same.f kj4 bt306.1 l0).bind fun t314 => (if t314 = true then ((dead_Count.f kj4 t289 a1_5).bind fun t315 => ((dead_Count.f kj4 l0 a1_5).bind fun t316 => (some (t315 == (wrap64 (t316 + 1)))))) else (none))) else (none)) else (none))) else (none)) else (none)) else (none)) else (none))) else (none)) else (none))))) else ((switchyardlaw19_awake.f kj4).bind fun t293 => (if t293 = true then (some ((t289.length : Int) == 0)) else (none)))) = some r := H
          have A21 := Aside0.mk A210
          clear A210
          by_cases c22 : t292 = 0
          · rw [if_pos c22] at H
            have c22b0 : (t292 == 0) = true := beq_iff_eq.mpr c22
            have c22b1 : (t292 != 0) = false := bne_eq_false_iff_eq.mpr c22
            clear c22
            replace H := Option.bind_eq_some_iff.mp H
            obtain ⟨⟨t294, t295, t296, t297, t300, t303, t304⟩, A230, H⟩ := H
            replace H : ((dead_Drop.f kj4 t289 a1_0).bind fun bt306 => ((switchyardlaw19_awake.f kj4).bind fun t310 => (if t310 = true then (if t304 = true then ((switchyardref13_SameDead.f kj4 a1_0 a1_1 a1_2 l1_3 l1_4 a1_5 t294 t295 t296 t297 t300 t303).bind fun t311 => (if t311 = true then (if (t289.length : Int) = (wrap64 ((l0.length : Int) + 1)) then (if 0 ≤ (l0.length : Int) then (if (l0.length : Int) < (t289.length : Int) then ((switchyardref13_SameDead.f kj4 ((rd_T27 t289 (l0.length : Int)).f0) ((rd_T27 t289 (l0.length : Int)).f1.f0) ((rd_T27 t289 (l0.length : Int)).f1.f1) ((rd_T27 t289 (l0.length : Int)).f1.f2) ((rd_T27 t289 (l0.length : Int)).f1.f3) ((rd_T27 t289 (l0.length : Int)).f2) a1_0 a1_1 a1_2 l1_3 l1_4 a1_5).bind fun t313 => (if t313 = true then (if bt306.2 = 0 then ((switchyardlaw19_Same.f kj4 bt306.1 l0).bind fun t314 => (if t314 = true then ((dead_Count.f kj4 t289 a1_5).bind fun t315 => ((dead_Count.f kj4 l0 a1_5).bind fun t316 => (some (t315 == (wrap64 (t316 + 1)))))) else (none))) else (none)) else (none))) else (none)) else (none)) else (none)) else (none))) else (none)) else (none)))) = some r := H
            have A23 := Aside0.mk A230
            clear A230
            replace H := Option.bind_eq_some_iff.mp H
            obtain ⟨⟨t306, t307⟩, A240, H⟩ := H
            replace H : ((switchyardlaw19_awake.f kj4).bind fun t310 => (if t310 = true then (if t304 = true then ((switchyardref13_SameDead.f kj4 a1_0 a1_1 a1_2 l1_3 l1_4 a1_5 t294 t295 t296 t297 t300 t303).bind fun t311 => (if t311 = true then (if (t289.length : Int) = (wrap64 ((l0.length : Int) + 1)) then (if 0 ≤ (l0.length : Int) then (if (l0.length : Int) < (t289.length : Int) then ((switchyardref13_SameDead.f kj4 ((rd_T27 t289 (l0.length : Int)).f0) ((rd_T27 t289 (l0.length : Int)).f1.f0) ((rd_T27 t289 (l0.length : Int)).f1.f1) ((rd_T27 t289 (l0.length : Int)).f1.f2) ((rd_T27 t289 (l0.length : Int)).f1.f3) ((rd_T27 t289 (l0.length : Int)).f2) a1_0 a1_1 a1_2 l1_3 l1_4 a1_5).bind fun t313 => (if t313 = true then (if t307 = 0 then ((switchyardlaw19_Same.f kj4 t306 l0).bind fun t314 => (if t314 = true then ((dead_Count.f kj4 t289 a1_5).bind fun t315 => ((dead_Count.f kj4 l0 a1_5).bind fun t316 => (some (t315 == (wrap64 (t316 + 1)))))) else (none))) else (none)) else (none))) else (none)) else (none)) else (none)) else (none))) else (none)) else (none))) = some r := H
            have A24 := Aside0.mk A240
            clear A240
            replace H := Option.bind_eq_some_iff.mp H
            obtain ⟨t310, A250, H⟩ := H
            replace H : (if t310 = true then (if t304 = true then ((switchyardref13_SameDead.f kj4 a1_0 a1_1 a1_2 l1_3 l1_4 a1_5 t294 t295 t296 t297 t300 t303).bind fun t311 => (if t311 = true then (if (t289.length : Int) = (wrap64 ((l0.length : Int) + 1)) then (if 0 ≤ (l0.length : Int) then (if (l0.length : Int) < (t289.length : Int) then ((switchyardref13_SameDead.f kj4 ((rd_T27 t289 (l0.length : Int)).f0) ((rd_T27 t289 (l0.length : Int)).f1.f0) ((rd_T27 t289 (l0.length : Int)).f1.f1) ((rd_T27 t289 (l0.length : Int)).f1.f2) ((rd_T27 t289 (l0.length : Int)).f1.f3) ((rd_T27 t289 (l0.length : Int)).f2) a1_0 a1_1 a1_2 l1_3 l1_4 a1_5).bind fun t313 => (if t313 = true then (if t307 = 0 then ((switchyardlaw19_Same.f kj4 t306 l0).bind fun t314 => (if t314 = true then ((dead_Count.f kj4 t289 a1_5).bind fun t315 => ((dead_Count.f kj4 l0 a1_5).bind fun t316 => (some (t315 == (wrap64 (t316 + 1)))))) else (none))) else (none)) else (none))) else (none)) else (none)) else (none)) else (none))) else (none)) else (none)) = some r := H
            have A25 := Aside0.mk A250
            clear A250
            by_cases c26 : t310 = true
            · subst c26
              have H1 : (if t304 = true then ((switchyardref13_SameDead.f kj4 a1_0 a1_1 a1_2 l1_3 l1_4 a1_5 t294 t295 t296 t297 t300 t303).bind fun t311 => (if t311 = true then (if (t289.length : Int) = (wrap64 ((l0.length : Int) + 1)) then (if 0 ≤ (l0.length : Int) then (if (l0.length : Int) < (t289.length : Int) then ((switchyardref13_SameDead.f kj4 ((rd_T27 t289 (l0.length : Int)).f0) ((rd_T27 t289 (l0.length : Int)).f1.f0) ((rd_T27 t289 (l0.length : Int)).f1.f1) ((rd_T27 t289 (l0.length : Int)).f1.f2) ((rd_T27 t289 (l0.length : Int)).f1.f3) ((rd_T27 t289 (l0.length : Int)).f2) a1_0 a1_1 a1_2 l1_3 l1_4 a1_5).bind fun t313 => (if t313 = true then (if t307 = 0 then ((switchyardlaw19_Same.f kj4 t306 l0).bind fun t314 => (if t314 = true then ((dead_Count.f kj4 t289 a1_5).bind fun t315 => ((dead_Count.f kj4 l0 a1_5).bind fun t316 => (some (t315 == (wrap64 (t316 + 1)))))) else (none))) else (none)) else (none))) else (none)) else (none)) else (none)) else (none))) else (none)) = some r := by rw [if_pos rfl] at H; exact H
              clear H
              have H := H1
              clear H1
              by_cases c27 : t304 = true
              · subst c27
                have H1 : ((switchyardref13_SameDead.f kj4 a1_0 a1_1 a1_2 l1_3 l1_4 a1_5 t294 t295 t296 t297 t300 t303).bind fun t311 => (if t311 = true then (if (t289.length : Int) = (wrap64 ((l0.length : Int) + 1)) then (if 0 ≤ (l0.length : Int) then (if (l0.length : Int) < (t289.length : Int) then ((switchyardref13_SameDead.f kj4 ((rd_T27 t289 (l0.length : Int)).f0) ((rd_T27 t289 (l0.length : Int)).f1.f0) ((rd_T27 t289 (l0.length : Int)).f1.f1) ((rd_T27 t289 (l0.length : Int)).f1.f2) ((rd_T27 t289 (l0.length : Int)).f1.f3) ((rd_T27 t289 (l0.length : Int)).f2) a1_0 a1_1 a1_2 l1_3 l1_4 a1_5).bind fun t313 => (if t313 = true then (if t307 = 0 then ((switchyardlaw19_Same.f kj4 t306 l0).bind fun t314 => (if t314 = true then ((dead_Count.f kj4 t289 a1_5).bind fun t315 => ((dead_Count.f kj4 l0 a1_5).bind fun t316 => (some (t315 == (wrap64 (t316 + 1)))))) else (none))) else (none)) else (none))) else (none)) else (none)) else (none)) else (none))) = some r := by rw [if_pos rfl] at H; exact H
                clear H
                have H := H1
                clear H1
                replace H := Option.bind_eq_some_iff.mp H
                obtain ⟨t311, A280, H⟩ := H
                replace H : (if t311 = true then (if (t289.length : Int) = (wrap64 ((l0.length : Int) + 1)) then (if 0 ≤ (l0.length : Int) then (if (l0.length : Int) < (t289.length : Int) then ((switchyardref13_SameDead.f kj4 ((rd_T27 t289 (l0.length : Int)).f0) ((rd_T27 t289 (l0.length : Int)).f1.f0) ((rd_T27 t289 (l0.length : Int)).f1.f1) ((rd_T27 t289 (l0.length : Int)).f1.f2) ((rd_T27 t289 (l0.length : Int)).f1.f3) ((rd_T27 t289 (l0.length : Int)).f2) a1_0 a1_1 a1_2 l1_3 l1_4 a1_5).bind fun t313 => (if t313 = true then (if t307 = 0 then ((switchyardlaw19_Same.f kj4 t306 l0).bind fun t314 => (if t314 = true then ((dead_Count.f kj4 t289 a1_5).bind fun t315 => ((dead_Count.f kj4 l0 a1_5).bind fun t316 => (some (t315 == (wrap64 (t316 + 1)))))) else (none))) else (none)) else (none))) else (none)) else (none)) else (none)) else (none)) = some r := H
                have A28 := Aside0.mk A280
                clear A280
                by_cases c29 : t311 = true
                · subst c29
                  have H1 : (if (t289.length : Int) = (wrap64 ((l0.length : Int) + 1)) then (if 0 ≤ (l0.length : Int) then (if (l0.length : Int) < (t289.length : Int) then ((switchyardref13_SameDead.f kj4 ((rd_T27 t289 (l0.length : Int)).f0) ((rd_T27 t289 (l0.length : Int)).f1.f0) ((rd_T27 t289 (l0.length : Int)).f1.f1) ((rd_T27 t289 (l0.length : Int)).f1.f2) ((rd_T27 t289 (l0.length : Int)).f1.f3) ((rd_T27 t289 (l0.length : Int)).f2) a1_0 a1_1 a1_2 l1_3 l1_4 a1_5).bind fun t313 => (if t313 = true then (if t307 = 0 then ((switchyardlaw19_Same.f kj4 t306 l0).bind fun t314 => (if t314 = true then ((dead_Count.f kj4 t289 a1_5).bind fun t315 => ((dead_Count.f kj4 l0 a1_5).bind fun t316 => (some (t315 == (wrap64 (t316 + 1)))))) else (none))) else (none)) else (none))) else (none)) else (none)) else (none)) = some r := by rw [if_pos rfl] at H; exact H
                  clear H
                  have H := H1
                  clear H1
                  by_cases c30 : (t289.length : Int) = (wrap64 ((l0.length : Int) + 1))
                  · rw [if_pos c30] at H
                    have c30b0 : ((t289.length : Int) == (wrap64 ((l0.length : Int) + 1))) = true := beq_iff_eq.mpr c30
                    have c30b1 : ((t289.length : Int) != (wrap64 ((l0.length : Int) + 1))) = false := bne_eq_false_iff_eq.mpr c30
                    clear c30
                    by_cases c31 : 0 ≤ (l0.length : Int)
                    · rw [if_pos c31] at H
                      have c31b0 : decide (0 ≤ (l0.length : Int)) = true := decide_eq_true c31
                      have c31b1 : decide (0 ≤ l0.length) = true := decide_eq_true (by omega)
                      clear c31
                      by_cases c32 : (l0.length : Int) < (t289.length : Int)
                      · rw [if_pos c32] at H
                        have c32b0 : decide ((l0.length : Int) < (t289.length : Int)) = true := decide_eq_true c32
                        have c32b1 : decide (l0.length < t289.length) = true := decide_eq_true (Int.ofNat_lt.mp c32)
                        clear c32
                        replace H := Option.bind_eq_some_iff.mp H
                        obtain ⟨t313, A330, H⟩ := H
                        replace H : (if t313 = true then (if t307 = 0 then ((switchyardlaw19_Same.f kj4 t306 l0).bind fun t314 => (if t314 = true then ((dead_Count.f kj4 t289 a1_5).bind fun t315 => ((dead_Count.f kj4 l0 a1_5).bind fun t316 => (some (t315 == (wrap64 (t316 + 1)))))) else (none))) else (none)) else (none)) = some r := H
                        have A33 := Aside0.mk A330
                        clear A330
                        by_cases c34 : t313 = true
                        · subst c34
                          have H1 : (if t307 = 0 then ((switchyardlaw19_Same.f kj4 t306 l0).bind fun t314 => (if t314 = true then ((dead_Count.f kj4 t289 a1_5).bind fun t315 => ((dead_Count.f kj4 l0 a1_5).bind fun t316 => (some (t315 == (wrap64 (t316 + 1)))))) else (none))) else (none)) = some r := by rw [if_pos rfl] at H; exact H
                          clear H
                          have H := H1
                          clear H1
                          by_cases c35 : t307 = 0
                          · rw [if_pos c35] at H
                            have c35b0 : (t307 == 0) = true := beq_iff_eq.mpr c35
                            have c35b1 : (t307 != 0) = false := bne_eq_false_iff_eq.mpr c35
                            clear c35
                            replace H := Option.bind_eq_some_iff.mp H
                            obtain ⟨t314, A360, H⟩ := H
                            replace H : (if t314 = true then ((dead_Count.f kj4 t289 a1_5).bind fun t315 => ((dead_Count.f kj4 l0 a1_5).bind fun t316 => (some (t315 == (wrap64 (t316 + 1)))))) else (none)) = some r := H
                            have A36 := Aside0.mk A360
                            clear A360
                            by_cases c37 : t314 = true
                            · subst c37
                              have H1 : ((dead_Count.f kj4 t289 a1_5).bind fun t315 => ((dead_Count.f kj4 l0 a1_5).bind fun t316 => (some (t315 == (wrap64 (t316 + 1)))))) = some r := by rw [if_pos rfl] at H; exact H
                              clear H
                              have H := H1
                              clear H1
                              replace H := Option.bind_eq_some_iff.mp H
                              obtain ⟨t315, A380, H⟩ := H
                              replace H : ((dead_Count.f kj4 l0 a1_5).bind fun t316 => (some (t315 == (wrap64 (t316 + 1))))) = some r := H
                              have A38 := Aside0.mk A380
                              clear A380
                              replace H := Option.bind_eq_some_iff.mp H
                              obtain ⟨t316, A390, H⟩ := H
                              replace H : (some (t315 == (wrap64 (t316 + 1)))) = some r := H
                              have A39 := Aside0.mk A390
                              clear A390
                              obtain rfl := Option.some.inj H
                              have hcz40_0 : wc.cell? ⟨gb281, 0, none⟩ = some (.int .i64 a1_0) := (blk_cell BK281.out 0).trans rfl
                              have hcz40_1 : wc.cell? ⟨gb281, 1, none⟩ = some (.int .i64 a1_1) := (blk_cell BK281.out 1).trans rfl
                              have hcz40_2 : wc.cell? ⟨gb281, 2, none⟩ = some (.string a1_2) := (blk_cell BK281.out 2).trans rfl
                              have hcz40_3 : wc.cell? ⟨gb281, 3, none⟩ = some (.slice A1_3 l1_3.length c1_3) := (blk_cell BK281.out 3).trans rfl
                              have hcz40_4 : wc.cell? ⟨gb281, 4, none⟩ = some (.slice A1_4 l1_4.length c1_4) := (blk_cell BK281.out 4).trans rfl
                              have hcz40_5 : wc.cell? ⟨gb281, 5, none⟩ = some (.int .i64 a1_5) := (blk_cell BK281.out 5).trans rfl
                              have hfz40_0 := blk_frozen BK281.out 0
                              have hfz40_1 := blk_frozen BK281.out 1
                              have hfz40_2 := blk_frozen BK281.out 2
                              have hfz40_3 := blk_frozen BK281.out 3
                              have hfz40_4 := blk_frozen BK281.out 4
                              have hfz40_5 := blk_frozen BK281.out 5
                              try go_wp2_with (first | ((with_reducible refine gate_callee (f := 9) rfl ?_); refine goesL_ (some 34) rfl rfl Tryd.func9 (by kernel_rfl) rfl #[.slice A0 l0.length c0, .int .i64 a1_0, .agg #[.int .i64 a1_1, .string a1_2, .slice A1_3 l1_3.length c1_3, .slice A1_4 l1_4.length c1_4], .int .i64 a1_5, .int .i64 (wrap64 ((l0.length : Int) + 1))] rfl (by (try simp only [List.map_toArray, List.map_cons, List.map_nil]); first | done | rfl | (simp only [List.length_drop, List.length_take]; rfl)) ?_; (with_reducible refine (dead_Put.calls kj4 _ _ l0 a1_0 a1_1 a1_2 _ _ l1_3 _ _ l1_4 a1_5 (wrap64 ((l0.length : Int) + 1)) t289 t292 _ ?side1 ?side2 ?side3 ?side4 ?side5 ?side6 A21.out (Tabs.below HT.out (by repeat (first | (with_reducible first | exact HB.out | apply below_alloc | apply pw_below_drewN | apply below_drew1 | refine below_set ?_ GE281.out) | exact HB.out)))).mono ?_); (case side1 => repeat (first | exact (Kd.C_below HR0.out HB.out) | (with_reducible refine Kd.C_alloc ?_ _) | (with_reducible refine Kd.C_drewN ?_ _) | (with_reducible refine Kd.C_drew ?_))); (case side2 => exact HC0.out); (case side3 => repeat (first | exact (Kd.V_reads' HO_282003.out).2.2 | (with_reducible refine Kd.C_alloc ?_ _) | (with_reducible refine Kd.C_drewN ?_ _) | (with_reducible refine Kd.C_drew ?_))); (case side4 => exact (Kd.V_reads' HO_282003.out).2.1); (case side5 => repeat (first | exact (Kd.V_reads' HO_282004.out).2.2 | (with_reducible refine Kd.C_alloc ?_ _) | (with_reducible refine Kd.C_drewN ?_ _) | (with_reducible refine Kd.C_drew ?_))); (case side6 => exact (Kd.V_reads' HO_282004.out).2.1); rintro e w41 ⟨v290, rfl, ho0, hb⟩; refine ⟨_, rfl, ?_⟩; have n0_ := Aside0.mk (Kd.V_elder' (by (with_reducible repeat (first | apply Kd.V_alloc | apply Kd.V_drewN | apply Kd.V_drew)); exact HO_282003.out) (Kd.N_base (Kd.R_N ho0)) hb); have n1_ := Aside0.mk (Kd.V_elder' (by (with_reducible repeat (first | apply Kd.V_alloc | apply Kd.V_drewN | apply Kd.V_drew)); exact HO_282004.out) (Kd.N_base (Kd.R_N ho0)) hb); have n2_ := Aside0.mk (Kd.N_lower (Kd.N_mono (ok' := fun k_ => ((P1_3_ k_ ∨ P1_4_ k_) ∨ w.heap.size ≤ k_) ∧ k_ ≠ gb281) (Kd.R_N (Kd.R_bound ho0)) (fun k_ hk_ => ⟨(.inr (Nat.le_trans (below_size (by repeat (first | (with_reducible first | exact HB.out | apply below_alloc | apply pw_below_drewN | apply below_drew1 | refine below_set ?_ GE281.out) | exact HB.out))) hk_.2.1)), (Kd.freshB (g := gb281) (o := .cells #[.int .i64 a1_0, .int .i64 a1_1, .string a1_2, .slice A1_3 l1_3.length c1_3, .slice A1_4 l1_4.length c1_4, .int .i64 a1_5] 27 (0, 0)) (by (with_reducible repeat (first | refine blk_drewN ?_ _ | refine blk_drew ?_ | refine blk_alloc ?_ _)); exact BK281.out) k_ hk_.2.1)⟩)) (below_size (by repeat (first | (with_reducible first | exact HB.out | apply below_alloc | apply pw_below_drewN | apply below_drew1 | refine below_set ?_ GE281.out) | exact HB.out)))); have n3_ := Aside0.mk (blk_below (g := gb281) (o := .cells #[.int .i64 a1_0, .int .i64 a1_1, .string a1_2, .slice A1_3 l1_3.length c1_3, .slice A1_4 l1_4.length c1_4, .int .i64 a1_5] 27 (0, 0)) (by (with_reducible repeat (first | refine blk_drewN ?_ _ | refine blk_drew ?_ | refine blk_alloc ?_ _)); exact BK281.out) hb); have n4_ := Aside0.mk (below_step (by repeat (first | (with_reducible first | exact HB.out | apply below_alloc | apply pw_below_drewN | apply below_drew1 | refine below_set ?_ GE281.out) | exact HB.out)) hb); clear HO_282003; clear HO_282004; clear BK281; clear HB; have HO_282003 := n0_; have HO_282004 := n1_; have HO291 := n2_; have BK281 := n3_; have HB := n4_; clear n0_ n1_ n2_ n3_ n4_; (try clear hb); (try clear hb2); (try clear hk); (try clear hi); (try clear ho0); have hcz42_0 : w41.cell? ⟨gb281, 0, none⟩ = some (.int .i64 a1_0) := (blk_cell BK281.out 0).trans rfl; have hcz42_1 : w41.cell? ⟨gb281, 1, none⟩ = some (.int .i64 a1_1) := (blk_cell BK281.out 1).trans rfl; have hcz42_2 : w41.cell? ⟨gb281, 2, none⟩ = some (.string a1_2) := (blk_cell BK281.out 2).trans rfl; have hcz42_3 : w41.cell? ⟨gb281, 3, none⟩ = some (.slice A1_3 l1_3.length c1_3) := (blk_cell BK281.out 3).trans rfl; have hcz42_4 : w41.cell? ⟨gb281, 4, none⟩ = some (.slice A1_4 l1_4.length c1_4) := (blk_cell BK281.out 4).trans rfl; have hcz42_5 : w41.cell? ⟨gb281, 5, none⟩ = some (.int .i64 a1_5) := (blk_cell BK281.out 5).trans rfl; have hfz42_0 := blk_frozen BK281.out 0; have hfz42_1 := blk_frozen BK281.out 1; have hfz42_2 := blk_frozen BK281.out 2; have hfz42_3 := blk_frozen BK281.out 3; have hfz42_4 := blk_frozen BK281.out 4; have hfz42_5 := blk_frozen BK281.out 5; obtain ⟨Ao43, co43, eo43⟩ := Kd.N_slice HO291.out; subst eo43) | ((with_reducible refine gate_callee (f := 10) rfl ?_); refine goesL_ (some 49) rfl rfl Tryd.func10 (by kernel_rfl) rfl #[.slice Ao43 t289.length co43, .int .i64 a1_0] rfl (by (try simp only [List.map_toArray, List.map_cons, List.map_nil]); first | done | rfl | (simp only [List.length_drop, List.length_take]; rfl)) ?_; (with_reducible refine (dead_Find.calls kj4 _ _ t289 a1_0 t294 t295 t296 t297 t300 t303 true _ ?side1 ?side2 A23.out).mono ?_); (case side1 => repeat (first | exact (Kd.N_reads' HO291.out).2.2 | (with_reducible refine Kd.C_alloc ?_ _) | (with_reducible refine Kd.C_drewN ?_ _) | (with_reducible refine Kd.C_drew ?_))); (case side2 => exact (Kd.N_reads' HO291.out).2.1); rintro e w44 ⟨v298, v301, rfl, ho0, ho1, hb⟩; refine ⟨_, rfl, ?_⟩; have n0_ := Aside0.mk (Kd.V_mono (Kd.V_told (Kd.V_told (Kd.V_old (by (with_reducible repeat (first | apply Kd.V_alloc | apply Kd.V_drewN | apply Kd.V_drew)); exact HO_282003.out) hb) (Kd.N_base (Kd.R_N (Kd.S_R ho0)))) (Kd.N_base (Kd.R_N (Kd.S_R ho1)))) (fun _ h_ => h_.1)); have n1_ := Aside0.mk (Kd.V_mono (Kd.V_told (Kd.V_told (Kd.V_old (by (with_reducible repeat (first | apply Kd.V_alloc | apply Kd.V_drewN | apply Kd.V_drew)); exact HO_282004.out) hb) (Kd.N_base (Kd.R_N (Kd.S_R ho0)))) (Kd.N_base (Kd.R_N (Kd.S_R ho1)))) (fun _ h_ => h_.1)); have n2_ := Aside0.mk (Kd.N_mono (Kd.N_told (Kd.N_told (Kd.N_old (by (with_reducible repeat (first | apply Kd.N_alloc | apply Kd.N_drewN | apply Kd.N_drew)); exact HO291.out) hb) (Kd.N_base (Kd.R_N (Kd.S_R ho0)))) (Kd.N_base (Kd.R_N (Kd.S_R ho1)))) (fun _ h_ => h_.1)); have n3_ := Aside0.mk (Kd.N_lower (Kd.N_mono (ok' := fun k_ => ((P1_3_ k_ ∨ P1_4_ k_) ∨ w.heap.size ≤ k_) ∧ some k_ ≠ (v301 : Value).ownBlock ∧ some k_ ≠ (.slice Ao43 t289.length co43 : Value).ownBlock ∧ k_ ≠ gb281) (Kd.S_N (Kd.S_bound ho0)) (fun k_ hk_ => ⟨(.inr (Nat.le_trans (below_size (by repeat (first | (with_reducible first | exact HB.out | apply below_alloc | apply pw_below_drewN | apply below_drew1 | refine below_set ?_ GE281.out) | exact HB.out))) hk_.2.1)), hk_.1, (Kd.fresh' (Kd.N_lt (by (with_reducible repeat (first | apply Kd.N_alloc | apply Kd.N_drewN | apply Kd.N_drew)); exact HO291.out)) k_ hk_.2.1), (Kd.freshB (g := gb281) (o := .cells #[.int .i64 a1_0, .int .i64 a1_1, .string a1_2, .slice A1_3 l1_3.length c1_3, .slice A1_4 l1_4.length c1_4, .int .i64 a1_5] 27 (0, 0)) (by (with_reducible repeat (first | refine blk_drewN ?_ _ | refine blk_drew ?_ | refine blk_alloc ?_ _)); exact BK281.out) k_ hk_.2.1)⟩)) (below_size (by repeat (first | (with_reducible first | exact HB.out | apply below_alloc | apply pw_below_drewN | apply below_drew1 | refine below_set ?_ GE281.out) | exact HB.out)))); have n4_ := Aside0.mk (Kd.N_lower (Kd.N_mono (ok' := fun k_ => ((P1_3_ k_ ∨ P1_4_ k_) ∨ w.heap.size ≤ k_) ∧ some k_ ≠ (v298 : Value).ownBlock ∧ some k_ ≠ (.slice Ao43 t289.length co43 : Value).ownBlock ∧ k_ ≠ gb281) (Kd.S_N (Kd.S_bound ho1)) (fun k_ hk_ => ⟨(.inr (Nat.le_trans (below_size (by repeat (first | (with_reducible first | exact HB.out | apply below_alloc | apply pw_below_drewN | apply below_drew1 | refine below_set ?_ GE281.out) | exact HB.out))) hk_.2.1)), hk_.1, (Kd.fresh' (Kd.N_lt (by (with_reducible repeat (first | apply Kd.N_alloc | apply Kd.N_drewN | apply Kd.N_drew)); exact HO291.out)) k_ hk_.2.1), (Kd.freshB (g := gb281) (o := .cells #[.int .i64 a1_0, .int .i64 a1_1, .string a1_2, .slice A1_3 l1_3.length c1_3, .slice A1_4 l1_4.length c1_4, .int .i64 a1_5] 27 (0, 0)) (by (with_reducible repeat (first | refine blk_drewN ?_ _ | refine blk_drew ?_ | refine blk_alloc ?_ _)); exact BK281.out) k_ hk_.2.1)⟩)) (below_size (by repeat (first | (with_reducible first | exact HB.out | apply below_alloc | apply pw_below_drewN | apply below_drew1 | refine below_set ?_ GE281.out) | exact HB.out)))); have n5_ := Aside0.mk (blk_below (g := gb281) (o := .cells #[.int .i64 a1_0, .int .i64 a1_1, .string a1_2, .slice A1_3 l1_3.length c1_3, .slice A1_4 l1_4.length c1_4, .int .i64 a1_5] 27 (0, 0)) (by (with_reducible repeat (first | refine blk_drewN ?_ _ | refine blk_drew ?_ | refine blk_alloc ?_ _)); exact BK281.out) hb); have n6_ := Aside0.mk (below_step (by repeat (first | (with_reducible first | exact HB.out | apply below_alloc | apply pw_below_drewN | apply below_drew1 | refine below_set ?_ GE281.out) | exact HB.out)) hb); clear HO_282003; clear HO_282004; clear HO291; clear BK281; clear HB; have HO_282003 := n0_; have HO_282004 := n1_; have HO291 := n2_; have HO299 := n3_; have HO302 := n4_; have BK281 := n5_; have HB := n6_; clear n0_ n1_ n2_ n3_ n4_ n5_ n6_; (try clear hb); (try clear hb2); (try clear hk); (try clear hi); (try clear ho0); (try clear ho1)) | ((with_reducible refine gate_dst (N := 7) rfl ?_); (try (refine gate_guard (by rfl) ?_; dsimp only)); refine box_event ?hg (N := 7) ?hd (cs := #[.int .i64 0, .int .i64 0, .string (⟨#[]⟩ : ByteArray), .slice none 0 0, .slice none 0 0, .int .i64 0]) (t := 27) ?hr ?_; (case hd => rfl); (case hg => rfl); (case hr => first | (go_simp; done) | (go_simp; rfl)); intro gb305 hg w45 hbox hb; have n0_ := Aside0.mk (Kd.V_below (Kd.V_elderB (by (with_reducible repeat (first | apply Kd.V_alloc | apply Kd.V_drewN | apply Kd.V_drew)); exact HO_282003.out) gb305 (Nat.le_of_eq hg.symm)) hb); have n1_ := Aside0.mk (Kd.V_below (Kd.V_elderB (by (with_reducible repeat (first | apply Kd.V_alloc | apply Kd.V_drewN | apply Kd.V_drew)); exact HO_282004.out) gb305 (Nat.le_of_eq hg.symm)) hb); have n2_ := Aside0.mk (Kd.N_below (Kd.N_elderB (by (with_reducible repeat (first | apply Kd.N_alloc | apply Kd.N_drewN | apply Kd.N_drew)); exact HO291.out) gb305 (Nat.le_of_eq hg.symm)) hb); have n3_ := Aside0.mk (Kd.N_below (Kd.N_elderB (by (with_reducible repeat (first | apply Kd.N_alloc | apply Kd.N_drewN | apply Kd.N_drew)); exact HO299.out) gb305 (Nat.le_of_eq hg.symm)) hb); have n4_ := Aside0.mk (Kd.N_below (Kd.N_elderB (by (with_reducible repeat (first | apply Kd.N_alloc | apply Kd.N_drewN | apply Kd.N_drew)); exact HO302.out) gb305 (Nat.le_of_eq hg.symm)) hb); have n5_ := Aside0.mk (blk_below (g := gb281) (o := .cells #[.int .i64 a1_0, .int .i64 a1_1, .string a1_2, .slice A1_3 l1_3.length c1_3, .slice A1_4 l1_4.length c1_4, .int .i64 a1_5] 27 (0, 0)) (by (with_reducible repeat (first | refine blk_drewN ?_ _ | refine blk_drew ?_ | refine blk_alloc ?_ _)); exact BK281.out) hb); have n6_ := Aside0.mk (below_step (by repeat (first | (with_reducible first | exact HB.out | apply below_alloc | apply pw_below_drewN | apply below_drew1 | refine below_set ?_ GE281.out) | exact HB.out)) hb); have n7_ := Aside0.mk (hbox); have n8_ := Aside0.mk ((by rw [hg]; exact (below_size (by repeat (first | (with_reducible first | exact HB.out | apply below_alloc | apply pw_below_drewN | apply below_drew1 | refine below_set ?_ GE281.out) | exact HB.out))) : w.heap.size ≤ gb305)); have n9_ := Aside0.mk ((by rw [hg]; exact (below_size (by repeat (first | (with_reducible first | exact HB.out | apply below_alloc | apply pw_below_drewN | apply below_drew1 | refine below_set ?_ GE281.out) | exact HB.out))) : w.heap.size ≤ gb305)); have n10_ := Aside0.mk ((by rw [hg]; exact Nat.ne_of_lt (blk_lt (g := gb281) (o := .cells #[.int .i64 a1_0, .int .i64 a1_1, .string a1_2, .slice A1_3 l1_3.length c1_3, .slice A1_4 l1_4.length c1_4, .int .i64 a1_5] 27 (0, 0)) (by (with_reducible repeat (first | refine blk_drewN ?_ _ | refine blk_drew ?_ | refine blk_alloc ?_ _)); exact BK281.out)) : gb281 ≠ gb305)); have n11_ := Aside0.mk ((by rw [hg]; exact Nat.ne_of_gt (blk_lt (g := gb281) (o := .cells #[.int .i64 a1_0, .int .i64 a1_1, .string a1_2, .slice A1_3 l1_3.length c1_3, .slice A1_4 l1_4.length c1_4, .int .i64 a1_5] 27 (0, 0)) (by (with_reducible repeat (first | refine blk_drewN ?_ _ | refine blk_drew ?_ | refine blk_alloc ?_ _)); exact BK281.out)) : gb305 ≠ gb281)); clear HO_282003; clear HO_282004; clear HO291; clear HO299; clear HO302; clear BK281; clear HB; have HO_282003 := n0_; have HO_282004 := n1_; have HO291 := n2_; have HO299 := n3_; have HO302 := n4_; have BK281 := n5_; have HB := n6_; have BK305 := n7_; have GW305 := n8_; have GE305 := n9_; have NB281_305 := n10_; have NB305_281 := n11_; clear n0_ n1_ n2_ n3_ n4_ n5_ n6_ n7_ n8_ n9_ n10_ n11_; clear hb hbox hg; have hnb46 := NB305_281.out; have hnc46 := NB281_305.out; have hcz47_0 : w45.cell? ⟨gb305, 0, none⟩ = some (.int .i64 0) := (blk_cell BK305.out 0).trans rfl; have hcz47_1 : w45.cell? ⟨gb305, 1, none⟩ = some (.int .i64 0) := (blk_cell BK305.out 1).trans rfl; have hcz47_2 : w45.cell? ⟨gb305, 2, none⟩ = some (.string (⟨#[]⟩ : ByteArray)) := (blk_cell BK305.out 2).trans rfl; have hcz47_3 : w45.cell? ⟨gb305, 3, none⟩ = some (.slice none 0 0) := (blk_cell BK305.out 3).trans rfl; have hcz47_4 : w45.cell? ⟨gb305, 4, none⟩ = some (.slice none 0 0) := (blk_cell BK305.out 4).trans rfl; have hcz47_5 : w45.cell? ⟨gb305, 5, none⟩ = some (.int .i64 0) := (blk_cell BK305.out 5).trans rfl; have hfz47_0 := blk_frozen BK305.out 0; have hfz47_1 := blk_frozen BK305.out 1; have hfz47_2 := blk_frozen BK305.out 2; have hfz47_3 := blk_frozen BK305.out 3; have hfz47_4 := blk_frozen BK305.out 4; have hfz47_5 := blk_frozen BK305.out 5; obtain ⟨Ao48, co48, eo48⟩ := Kd.N_slice HO299.out; subst eo48; obtain ⟨Ao49, co49, eo49⟩ := Kd.N_slice HO302.out; subst eo49; have hcz50_0 : w45.cell? ⟨gb281, 0, none⟩ = some (.int .i64 a1_0) := (blk_cell BK281.out 0).trans rfl; have hcz50_1 : w45.cell? ⟨gb281, 1, none⟩ = some (.int .i64 a1_1) := (blk_cell BK281.out 1).trans rfl; have hcz50_2 : w45.cell? ⟨gb281, 2, none⟩ = some (.string a1_2) := (blk_cell BK281.out 2).trans rfl; have hcz50_3 : w45.cell? ⟨gb281, 3, none⟩ = some (.slice A1_3 l1_3.length c1_3) := (blk_cell BK281.out 3).trans rfl; have hcz50_4 : w45.cell? ⟨gb281, 4, none⟩ = some (.slice A1_4 l1_4.length c1_4) := (blk_cell BK281.out 4).trans rfl; have hcz50_5 : w45.cell? ⟨gb281, 5, none⟩ = some (.int .i64 a1_5) := (blk_cell BK281.out 5).trans rfl; have hfz50_0 := blk_frozen BK281.out 0; have hfz50_1 := blk_frozen BK281.out 1; have hfz50_2 := blk_frozen BK281.out 2; have hfz50_3 := blk_frozen BK281.out 3; have hfz50_4 := blk_frozen BK281.out 4; have hfz50_5 := blk_frozen BK281.out 5) | ((with_reducible refine gate_callee (f := 15) rfl ?_); refine goesL_ (some 56) rfl rfl Tryd.func15 (by kernel_rfl) rfl #[.slice Ao43 t289.length co43, .int .i64 a1_0] rfl (by (try simp only [List.map_toArray, List.map_cons, List.map_nil]); first | done | rfl | (simp only [List.length_drop, List.length_take]; rfl)) ?_; (with_reducible refine (dead_Drop.calls kj4 _ _ t289 a1_0 t306 t307 _ ?side1 ?side2 A24.out).mono ?_); (case side1 => refine (Kd.N_reads' (e := 27) (base := w.heap.size) (ok := fun k_ => ((((((P1_3_ k_ ∨ P1_4_ k_) ∨ w.heap.size ≤ k_) ∧ k_ ≠ gb281) ∧ some k_ ≠ (.slice Ao48 t297.length co48 : Value).ownBlock) ∧ some k_ ≠ (.slice Ao49 t300.length co49 : Value).ownBlock) ∧ k_ ≠ gb305)) (n := t289.length) (c := co43) ?_).2.2; exact (by (with_reducible repeat (first | apply Kd.N_alloc | apply Kd.N_drewN | apply Kd.N_drew)); exact (Kd.N_mono (Kd.N_far (p := ⟨gb305, 5, none⟩) (Kd.N_far (p := ⟨gb305, 4, none⟩) (Kd.N_far (p := ⟨gb305, 3, none⟩) (Kd.N_far (p := ⟨gb305, 2, none⟩) (Kd.N_far (p := ⟨gb305, 1, none⟩) (Kd.N_far (p := ⟨gb305, 0, none⟩) (Kd.N_mono HO291.out (fun k_ hk => (⟨hk, hk.2⟩ : _ ∧ k_ ≠ gb305))) (fun _ hk => hk.2) (.int .i64 t294)) (fun _ hk => hk.2) (.int .i64 t295)) (fun _ hk => hk.2) (.string t296)) (fun _ hk => hk.2) (.slice Ao48 t297.length co48)) (fun _ hk => hk.2) (.slice Ao49 t300.length co49)) (fun _ hk => hk.2) (.int .i64 t303)) (fun _ h_ => h_.1)))); (case side2 => exact (Kd.N_reads' HO291.out).2.1); rintro e w51 ⟨v308, rfl, ho0, hb⟩; refine ⟨_, rfl, ?_⟩; have n0_ := Aside0.mk (Kd.V_elder' (by (with_reducible repeat (first | apply Kd.V_alloc | apply Kd.V_drewN | apply Kd.V_drew)); exact (Kd.V_mono (Kd.V_far (p := ⟨gb305, 5, none⟩) (Kd.V_far (p := ⟨gb305, 4, none⟩) (Kd.V_far (p := ⟨gb305, 3, none⟩) (Kd.V_far (p := ⟨gb305, 2, none⟩) (Kd.V_far (p := ⟨gb305, 1, none⟩) (Kd.V_far (p := ⟨gb305, 0, none⟩) (Kd.V_mono HO_282003.out (fun k_ hk => (⟨hk, hk.2⟩ : _ ∧ k_ ≠ gb305))) (fun _ hk => hk.2) (.int .i64 t294)) (fun _ hk => hk.2) (.int .i64 t295)) (fun _ hk => hk.2) (.string t296)) (fun _ hk => hk.2) (.slice Ao48 t297.length co48)) (fun _ hk => hk.2) (.slice Ao49 t300.length co49)) (fun _ hk => hk.2) (.int .i64 t303)) (fun _ h_ => h_.1))) (Kd.N_base (Kd.R_N ho0)) hb); have n1_ := Aside0.mk (Kd.V_elder' (by (with_reducible repeat (first | apply Kd.V_alloc | apply Kd.V_drewN | apply Kd.V_drew)); exact (Kd.V_mono (Kd.V_far (p := ⟨gb305, 5, none⟩) (Kd.V_far (p := ⟨gb305, 4, none⟩) (Kd.V_far (p := ⟨gb305, 3, none⟩) (Kd.V_far (p := ⟨gb305, 2, none⟩) (Kd.V_far (p := ⟨gb305, 1, none⟩) (Kd.V_far (p := ⟨gb305, 0, none⟩) (Kd.V_mono HO_282004.out (fun k_ hk => (⟨hk, hk.2⟩ : _ ∧ k_ ≠ gb305))) (fun _ hk => hk.2) (.int .i64 t294)) (fun _ hk => hk.2) (.int .i64 t295)) (fun _ hk => hk.2) (.string t296)) (fun _ hk => hk.2) (.slice Ao48 t297.length co48)) (fun _ hk => hk.2) (.slice Ao49 t300.length co49)) (fun _ hk => hk.2) (.int .i64 t303)) (fun _ h_ => h_.1))) (Kd.N_base (Kd.R_N ho0)) hb); have n2_ := Aside0.mk (Kd.N_elder' (by (with_reducible repeat (first | apply Kd.N_alloc | apply Kd.N_drewN | apply Kd.N_drew)); exact (Kd.N_mono (Kd.N_far (p := ⟨gb305, 5, none⟩) (Kd.N_far (p := ⟨gb305, 4, none⟩) (Kd.N_far (p := ⟨gb305, 3, none⟩) (Kd.N_far (p := ⟨gb305, 2, none⟩) (Kd.N_far (p := ⟨gb305, 1, none⟩) (Kd.N_far (p := ⟨gb305, 0, none⟩) (Kd.N_mono HO291.out (fun k_ hk => (⟨hk, hk.2⟩ : _ ∧ k_ ≠ gb305))) (fun _ hk => hk.2) (.int .i64 t294)) (fun _ hk => hk.2) (.int .i64 t295)) (fun _ hk => hk.2) (.string t296)) (fun _ hk => hk.2) (.slice Ao48 t297.length co48)) (fun _ hk => hk.2) (.slice Ao49 t300.length co49)) (fun _ hk => hk.2) (.int .i64 t303)) (fun _ h_ => h_.1))) (Kd.N_base (Kd.R_N ho0)) hb); have n3_ := Aside0.mk (Kd.N_elder' (by (with_reducible repeat (first | apply Kd.N_alloc | apply Kd.N_drewN | apply Kd.N_drew)); exact (Kd.N_mono (Kd.N_far (p := ⟨gb305, 5, none⟩) (Kd.N_far (p := ⟨gb305, 4, none⟩) (Kd.N_far (p := ⟨gb305, 3, none⟩) (Kd.N_far (p := ⟨gb305, 2, none⟩) (Kd.N_far (p := ⟨gb305, 1, none⟩) (Kd.N_far (p := ⟨gb305, 0, none⟩) (Kd.N_mono HO299.out (fun k_ hk => (⟨hk, hk.2⟩ : _ ∧ k_ ≠ gb305))) (fun _ hk => hk.2) (.int .i64 t294)) (fun _ hk => hk.2) (.int .i64 t295)) (fun _ hk => hk.2) (.string t296)) (fun _ hk => hk.2) (.slice Ao48 t297.length co48)) (fun _ hk => hk.2) (.slice Ao49 t300.length co49)) (fun _ hk => hk.2) (.int .i64 t303)) (fun _ h_ => h_.1))) (Kd.N_base (Kd.R_N ho0)) hb); have n4_ := Aside0.mk (Kd.N_elder' (by (with_reducible repeat (first | apply Kd.N_alloc | apply Kd.N_drewN | apply Kd.N_drew)); exact (Kd.N_mono (Kd.N_far (p := ⟨gb305, 5, none⟩) (Kd.N_far (p := ⟨gb305, 4, none⟩) (Kd.N_far (p := ⟨gb305, 3, none⟩) (Kd.N_far (p := ⟨gb305, 2, none⟩) (Kd.N_far (p := ⟨gb305, 1, none⟩) (Kd.N_far (p := ⟨gb305, 0, none⟩) (Kd.N_mono HO302.out (fun k_ hk => (⟨hk, hk.2⟩ : _ ∧ k_ ≠ gb305))) (fun _ hk => hk.2) (.int .i64 t294)) (fun _ hk => hk.2) (.int .i64 t295)) (fun _ hk => hk.2) (.string t296)) (fun _ hk => hk.2) (.slice Ao48 t297.length co48)) (fun _ hk => hk.2) (.slice Ao49 t300.length co49)) (fun _ hk => hk.2) (.int .i64 t303)) (fun _ h_ => h_.1))) (Kd.N_base (Kd.R_N ho0)) hb); have n5_ := Aside0.mk (Kd.N_lower (Kd.N_mono (ok' := fun k_ => ((P1_3_ k_ ∨ P1_4_ k_) ∨ w.heap.size ≤ k_) ∧ some k_ ≠ (.slice Ao43 t289.length co43 : Value).ownBlock ∧ some k_ ≠ (.slice Ao48 t297.length co48 : Value).ownBlock ∧ some k_ ≠ (.slice Ao49 t300.length co49 : Value).ownBlock ∧ k_ ≠ gb281 ∧ k_ ≠ gb305) (Kd.R_N (Kd.R_bound ho0)) (fun k_ hk_ => ⟨(.inr (Nat.le_trans (below_size (by repeat (first | (with_reducible first | exact HB.out | apply below_alloc | apply pw_below_drewN | apply below_drew1 | refine below_set ?_ GE281.out | refine below_set ?_ GE305.out) | exact HB.out))) hk_.2.1)), (Kd.fresh' (Kd.N_lt (by (with_reducible repeat (first | apply Kd.N_alloc | apply Kd.N_drewN | apply Kd.N_drew)); exact (Kd.N_mono (Kd.N_far (p := ⟨gb305, 5, none⟩) (Kd.N_far (p := ⟨gb305, 4, none⟩) (Kd.N_far (p := ⟨gb305, 3, none⟩) (Kd.N_far (p := ⟨gb305, 2, none⟩) (Kd.N_far (p := ⟨gb305, 1, none⟩) (Kd.N_far (p := ⟨gb305, 0, none⟩) (Kd.N_mono HO291.out (fun k_ hk => (⟨hk, hk.2⟩ : _ ∧ k_ ≠ gb305))) (fun _ hk => hk.2) (.int .i64 t294)) (fun _ hk => hk.2) (.int .i64 t295)) (fun _ hk => hk.2) (.string t296)) (fun _ hk => hk.2) (.slice Ao48 t297.length co48)) (fun _ hk => hk.2) (.slice Ao49 t300.length co49)) (fun _ hk => hk.2) (.int .i64 t303)) (fun _ h_ => h_.1)))) k_ hk_.2.1), (Kd.fresh' (Kd.N_lt (by (with_reducible repeat (first | apply Kd.N_alloc | apply Kd.N_drewN | apply Kd.N_drew)); exact (Kd.N_mono (Kd.N_far (p := ⟨gb305, 5, none⟩) (Kd.N_far (p := ⟨gb305, 4, none⟩) (Kd.N_far (p := ⟨gb305, 3, none⟩) (Kd.N_far (p := ⟨gb305, 2, none⟩) (Kd.N_far (p := ⟨gb305, 1, none⟩) (Kd.N_far (p := ⟨gb305, 0, none⟩) (Kd.N_mono HO299.out (fun k_ hk => (⟨hk, hk.2⟩ : _ ∧ k_ ≠ gb305))) (fun _ hk => hk.2) (.int .i64 t294)) (fun _ hk => hk.2) (.int .i64 t295)) (fun _ hk => hk.2) (.string t296)) (fun _ hk => hk.2) (.slice Ao48 t297.length co48)) (fun _ hk => hk.2) (.slice Ao49 t300.length co49)) (fun _ hk => hk.2) (.int .i64 t303)) (fun _ h_ => h_.1)))) k_ hk_.2.1), (Kd.fresh' (Kd.N_lt (by (with_reducible repeat (first | apply Kd.N_alloc | apply Kd.N_drewN | apply Kd.N_drew)); exact (Kd.N_mono (Kd.N_far (p := ⟨gb305, 5, none⟩) (Kd.N_far (p := ⟨gb305, 4, none⟩) (Kd.N_far (p := ⟨gb305, 3, none⟩) (Kd.N_far (p := ⟨gb305, 2, none⟩) (Kd.N_far (p := ⟨gb305, 1, none⟩) (Kd.N_far (p := ⟨gb305, 0, none⟩) (Kd.N_mono HO302.out (fun k_ hk => (⟨hk, hk.2⟩ : _ ∧ k_ ≠ gb305))) (fun _ hk => hk.2) (.int .i64 t294)) (fun _ hk => hk.2) (.int .i64 t295)) (fun _ hk => hk.2) (.string t296)) (fun _ hk => hk.2) (.slice Ao48 t297.length co48)) (fun _ hk => hk.2) (.slice Ao49 t300.length co49)) (fun _ hk => hk.2) (.int .i64 t303)) (fun _ h_ => h_.1)))) k_ hk_.2.1), (Kd.freshB (g := gb281) (o := .cells #[.int .i64 a1_0, .int .i64 a1_1, .string a1_2, .slice A1_3 l1_3.length c1_3, .slice A1_4 l1_4.length c1_4, .int .i64 a1_5] 27 (0, 0)) (by (with_reducible repeat (first | refine blk_drewN ?_ _ | refine blk_drew ?_ | refine blk_alloc ?_ _)); refine blk_far ?_ NB281_305.out _; (with_reducible repeat (first | refine blk_drewN ?_ _ | refine blk_drew ?_ | refine blk_alloc ?_ _)); refine blk_far ?_ NB281_305.out _; (with_reducible repeat (first | refine blk_drewN ?_ _ | refine blk_drew ?_ | refine blk_alloc ?_ _)); refine blk_far ?_ NB281_305.out _; (with_reducible repeat (first | refine blk_drewN ?_ _ | refine blk_drew ?_ | refine blk_alloc ?_ _)); refine blk_far ?_ NB281_305.out _; (with_reducible repeat (first | refine blk_drewN ?_ _ | refine blk_drew ?_ | refine blk_alloc ?_ _)); refine blk_far ?_ NB281_305.out _; (with_reducible repeat (first | refine blk_drewN ?_ _ | refine blk_drew ?_ | refine blk_alloc ?_ _)); refine blk_far ?_ NB281_305.out _; (with_reducible repeat (first | refine blk_drewN ?_ _ | refine blk_drew ?_ | refine blk_alloc ?_ _)); exact BK281.out) k_ hk_.2.1), (Kd.freshB (g := gb305) (o := .cells #[.int .i64 t294, .int .i64 t295, .string t296, .slice Ao48 t297.length co48, .slice Ao49 t300.length co49, .int .i64 t303] 27 (0, 0)) (by (with_reducible repeat (first | refine blk_drewN ?_ _ | refine blk_drew ?_ | refine blk_alloc ?_ _)); refine blk_put (cs := #[.int .i64 t294, .int .i64 t295, .string t296, .slice Ao48 t297.length co48, .slice Ao49 t300.length co49, .int .i64 0]) ?_ 5 _ rfl; (with_reducible repeat (first | refine blk_drewN ?_ _ | refine blk_drew ?_ | refine blk_alloc ?_ _)); refine blk_put (cs := #[.int .i64 t294, .int .i64 t295, .string t296, .slice Ao48 t297.length co48, .slice none 0 0, .int .i64 0]) ?_ 4 _ rfl; (with_reducible repeat (first | refine blk_drewN ?_ _ | refine blk_drew ?_ | refine blk_alloc ?_ _)); refine blk_put (cs := #[.int .i64 t294, .int .i64 t295, .string t296, .slice none 0 0, .slice none 0 0, .int .i64 0]) ?_ 3 _ rfl; (with_reducible repeat (first | refine blk_drewN ?_ _ | refine blk_drew ?_ | refine blk_alloc ?_ _)); refine blk_put (cs := #[.int .i64 t294, .int .i64 t295, .string (⟨#[]⟩ : ByteArray), .slice none 0 0, .slice none 0 0, .int .i64 0]) ?_ 2 _ rfl; (with_reducible repeat (first | refine blk_drewN ?_ _ | refine blk_drew ?_ | refine blk_alloc ?_ _)); refine blk_put (cs := #[.int .i64 t294, .int .i64 0, .string (⟨#[]⟩ : ByteArray), .slice none 0 0, .slice none 0 0, .int .i64 0]) ?_ 1 _ rfl; (with_reducible repeat (first | refine blk_drewN ?_ _ | refine blk_drew ?_ | refine blk_alloc ?_ _)); refine blk_put (cs := #[.int .i64 0, .int .i64 0, .string (⟨#[]⟩ : ByteArray), .slice none 0 0, .slice none 0 0, .int .i64 0]) ?_ 0 _ rfl; (with_reducible repeat (first | refine blk_drewN ?_ _ | refine blk_drew ?_ | refine blk_alloc ?_ _)); exact BK305.out) k_ hk_.2.1)⟩)) (below_size (by repeat (first | (with_reducible first | exact HB.out | apply below_alloc | apply pw_below_drewN | apply below_drew1 | refine below_set ?_ GE281.out | refine below_set ?_ GE305.out) | exact HB.out)))); have n6_ := Aside0.mk (blk_below (g := gb281) (o := .cells #[.int .i64 a1_0, .int .i64 a1_1, .string a1_2, .slice A1_3 l1_3.length c1_3, .slice A1_4 l1_4.length c1_4, .int .i64 a1_5] 27 (0, 0)) (by (with_reducible repeat (first | refine blk_drewN ?_ _ | refine blk_drew ?_ | refine blk_alloc ?_ _)); refine blk_far ?_ NB281_305.out _; (with_reducible repeat (first | refine blk_drewN ?_ _ | refine blk_drew ?_ | refine blk_alloc ?_ _)); refine blk_far ?_ NB281_305.out _; (with_reducible repeat (first | refine blk_drewN ?_ _ | refine blk_drew ?_ | refine blk_alloc ?_ _)); refine blk_far ?_ NB281_305.out _; (with_reducible repeat (first | refine blk_drewN ?_ _ | refine blk_drew ?_ | refine blk_alloc ?_ _)); refine blk_far ?_ NB281_305.out _; (with_reducible repeat (first | refine blk_drewN ?_ _ | refine blk_drew ?_ | refine blk_alloc ?_ _)); refine blk_far ?_ NB281_305.out _; (with_reducible repeat (first | refine blk_drewN ?_ _ | refine blk_drew ?_ | refine blk_alloc ?_ _)); refine blk_far ?_ NB281_305.out _; (with_reducible repeat (first | refine blk_drewN ?_ _ | refine blk_drew ?_ | refine blk_alloc ?_ _)); exact BK281.out) hb); have n7_ := Aside0.mk (blk_below (g := gb305) (o := .cells #[.int .i64 t294, .int .i64 t295, .string t296, .slice Ao48 t297.length co48, .slice Ao49 t300.length co49, .int .i64 t303] 27 (0, 0)) (by (with_reducible repeat (first | refine blk_drewN ?_ _ | refine blk_drew ?_ | refine blk_alloc ?_ _)); refine blk_put (cs := #[.int .i64 t294, .int .i64 t295, .string t296, .slice Ao48 t297.length co48, .slice Ao49 t300.length co49, .int .i64 0]) ?_ 5 _ rfl; (with_reducible repeat (first | refine blk_drewN ?_ _ | refine blk_drew ?_ | refine blk_alloc ?_ _)); refine blk_put (cs := #[.int .i64 t294, .int .i64 t295, .string t296, .slice Ao48 t297.length co48, .slice none 0 0, .int .i64 0]) ?_ 4 _ rfl; (with_reducible repeat (first | refine blk_drewN ?_ _ | refine blk_drew ?_ | refine blk_alloc ?_ _)); refine blk_put (cs := #[.int .i64 t294, .int .i64 t295, .string t296, .slice none 0 0, .slice none 0 0, .int .i64 0]) ?_ 3 _ rfl; (with_reducible repeat (first | refine blk_drewN ?_ _ | refine blk_drew ?_ | refine blk_alloc ?_ _)); refine blk_put (cs := #[.int .i64 t294, .int .i64 t295, .string (⟨#[]⟩ : ByteArray), .slice none 0 0, .slice none 0 0, .int .i64 0]) ?_ 2 _ rfl; (with_reducible repeat (first | refine blk_drewN ?_ _ | refine blk_drew ?_ | refine blk_alloc ?_ _)); refine blk_put (cs := #[.int .i64 t294, .int .i64 0, .string (⟨#[]⟩ : ByteArray), .slice none 0 0, .slice none 0 0, .int .i64 0]) ?_ 1 _ rfl; (with_reducible repeat (first | refine blk_drewN ?_ _ | refine blk_drew ?_ | refine blk_alloc ?_ _)); refine blk_put (cs := #[.int .i64 0, .int .i64 0, .string (⟨#[]⟩ : ByteArray), .slice none 0 0, .slice none 0 0, .int .i64 0]) ?_ 0 _ rfl; (with_reducible repeat (first | refine blk_drewN ?_ _ | refine blk_drew ?_ | refine blk_alloc ?_ _)); exact BK305.out) hb); have n8_ := Aside0.mk (below_step (by repeat (first | (with_reducible first | exact HB.out | apply below_alloc | apply pw_below_drewN | apply below_drew1 | refine below_set ?_ GE281.out | refine below_set ?_ GE305.out) | exact HB.out)) hb); clear HO_282003; clear HO_282004; clear HO291; clear HO299; clear HO302; clear BK281; clear BK305; clear HB; have HO_282003 := n0_; have HO_282004 := n1_; have HO291 := n2_; have HO299 := n3_; have HO302 := n4_; have HO309 := n5_; have BK281 := n6_; have BK305 := n7_; have HB := n8_; clear n0_ n1_ n2_ n3_ n4_ n5_ n6_ n7_ n8_; (try clear hb); (try clear hb2); (try clear hk); (try clear hi); (try clear ho0)))
                              have n0_ := Aside0.mk (Kd.V_drew HO_282003.out)
                              have n1_ := Aside0.mk (Kd.V_drew HO_282004.out)
                              have n2_ := Aside0.mk (Kd.N_drew HO291.out)
                              have n3_ := Aside0.mk (Kd.N_drew HO299.out)
                              have n4_ := Aside0.mk (Kd.N_drew HO302.out)
                              have n5_ := Aside0.mk (Kd.N_drew HO309.out)
                              have n6_ := Aside0.mk (blk_drew BK281.out)
                              have n7_ := Aside0.mk (blk_drew BK305.out)
                              have n8_ := Aside0.mk (below_drew1 HB.out)
                              clear HO_282003
                              clear HO_282004
                              clear HO291
                              clear HO299
                              clear HO302
                              clear HO309
                              clear BK281
                              clear BK305
                              clear HB
                              have HO_282003 := n0_
                              have HO_282004 := n1_
                              have HO291 := n2_
                              have HO299 := n3_
                              have HO302 := n4_
                              have HO309 := n5_
                              have BK281 := n6_
                              have BK305 := n7_
                              have HB := n8_
                              clear n0_ n1_ n2_ n3_ n4_ n5_ n6_ n7_ n8_
                              have p312 : 0 ≤ ((l0.length : Int) : Int) := of_decide_eq_true (by first | (with_reducible assumption) | assumption)
                              have q312 : (l0.length : Int) < (t289.length : Int) := of_decide_eq_true (by first | (with_reducible assumption) | assumption)
                              obtain ⟨ad312, A312_3, c312_3, A312_4, c312_4, e312, hx312_0, hx312_1, hx312_2, hx312_3, hx312_4, hx312_5, hl312_3, hi312_3, hl312_4, hi312_4⟩ := at_T27 (Kd.N_reads' HO291.out).2.2 (l0.length : Int) p312 q312
                              cases e312
                              obtain ⟨ce312, hce312, hMe312, hcc312⟩ := Kd.N_get HO291.out z27 (l0.length : Int) p312 (by first | exact q312 | exact of_decide_eq_true (by first | (with_reducible assumption) | assumption) | (have e_ := (Kd.N_reads' HO291.out).1; omega))
                              obtain ⟨ua312_3, uc312_3, ua312_4, uc312_4, rfl, ul312_3, ge312_3, ul312_4, ge312_4⟩ := k27_openF hMe312
                              have hv312_3 := hcc312 3 _ rfl
                              rw [add_field _ _ 3 (by omega)] at hv312_3
                              replace hv312_3 := Option.some.inj (hv312_3.symm.trans hx312_3)
                              injection hv312_3 with hva_ hvn_ hvc_
                              rw [hva_] at ge312_3
                              rw [hvc_] at ul312_3
                              have HL312_3 := Aside0.mk (show Kd.V k37 37 _ w.heap.size _ _ ((rd_T27 t289 (l0.length : Int)).f1.f2) from Kd.V_mk ul312_3 ge312_3)
                              clear hva_ hvn_ hvc_ ge312_3 ul312_3
                              have hv312_4 := hcc312 4 _ rfl
                              rw [add_field _ _ 4 (by omega)] at hv312_4
                              replace hv312_4 := Option.some.inj (hv312_4.symm.trans hx312_4)
                              injection hv312_4 with hva_ hvn_ hvc_
                              rw [hva_] at ge312_4
                              rw [hvc_] at ul312_4
                              have HL312_4 := Aside0.mk (show Kd.V k37 37 _ w.heap.size _ _ ((rd_T27 t289 (l0.length : Int)).f1.f3) from Kd.V_mk ul312_4 ge312_4)
                              clear hva_ hvn_ hvc_ ge312_4 ul312_4
                              clear hcc312 hce312
                              have HR312_3 := Aside0.mk hi312_3
                              have HC312_3 := Aside0.mk hl312_3
                              clear hi312_3 hl312_3
                              have HR312_4 := Aside0.mk hi312_4
                              have HC312_4 := Aside0.mk hl312_4
                              clear hi312_4 hl312_4
                              (try simp only [Go.IntWalk.toNatUp] at hx312_0)
                              (try simp only [Go.IntWalk.toNatUp] at hx312_1)
                              (try simp only [Go.IntWalk.toNatUp] at hx312_2)
                              (try simp only [Go.IntWalk.toNatUp] at hx312_3)
                              (try simp only [Go.IntWalk.toNatUp] at hx312_4)
                              (try simp only [Go.IntWalk.toNatUp] at hx312_5)
                              replace p312 := eq_true p312
                              replace q312 := eq_true q312
                              refine start_ (n := 48) (S := fun w' => w'.cell? ⟨gb281, 0, none⟩ = some (.int .i64 a1_0) ∧ w'.cell? ⟨gb281, 1, none⟩ = some (.int .i64 a1_1) ∧ w'.cell? ⟨gb281, 2, none⟩ = some (.string a1_2) ∧ w'.cell? ⟨gb281, 3, none⟩ = some (.slice A1_3 l1_3.length c1_3) ∧ w'.cell? ⟨gb281, 4, none⟩ = some (.slice A1_4 l1_4.length c1_4) ∧ w'.cell? ⟨gb281, 5, none⟩ = some (.int .i64 a1_5) ∧ w'.cell? ⟨gb305, 0, none⟩ = some (.int .i64 t294) ∧ w'.cell? ⟨gb305, 1, none⟩ = some (.int .i64 t295) ∧ w'.cell? ⟨gb305, 2, none⟩ = some (.string t296) ∧ w'.cell? ⟨gb305, 3, none⟩ = some (.slice Ao48 t297.length co48) ∧ w'.cell? ⟨gb305, 4, none⟩ = some (.slice Ao49 t300.length co49) ∧ w'.cell? ⟨gb305, 5, none⟩ = some (.int .i64 t303) ∧ w'.cell? (ad312.add (l0.length * 6)) = some (.int .i64 ((rd_T27 t289 (l0.length : Int)).f0)) ∧ w'.cell? ⟨(ad312.add (l0.length * 6)).block, (ad312.add (l0.length * 6)).off + 1, none⟩ = some (.int .i64 ((rd_T27 t289 (l0.length : Int)).f1.f0)) ∧ w'.cell? ⟨(ad312.add (l0.length * 6)).block, (ad312.add (l0.length * 6)).off + 2, none⟩ = some (.string ((rd_T27 t289 (l0.length : Int)).f1.f1)) ∧ w'.cell? ⟨(ad312.add (l0.length * 6)).block, (ad312.add (l0.length * 6)).off + 3, none⟩ = some (.slice A312_3 ((rd_T27 t289 (l0.length : Int)).f1.f2).length c312_3) ∧ w'.cell? ⟨(ad312.add (l0.length * 6)).block, (ad312.add (l0.length * 6)).off + 4, none⟩ = some (.slice A312_4 ((rd_T27 t289 (l0.length : Int)).f1.f3).length c312_4) ∧ w'.cell? ⟨(ad312.add (l0.length * 6)).block, (ad312.add (l0.length * 6)).off + 5, none⟩ = some (.int .i64 ((rd_T27 t289 (l0.length : Int)).f2))) (ds := []) #[false, false, false, false, false, false, false, false, false, false, false, false, false, false, false, false, false, false, false, false, false, false, false, false, false, false, false, false, false, false, false, false, false, false, false, false, false, false, false, false, false, false, false, false, false, false, false, false] (by kernel_rfl) rfl rfl ⟨(blk_cell BK281.out 0).trans rfl, (blk_cell BK281.out 1).trans rfl, (blk_cell BK281.out 2).trans rfl, (blk_cell BK281.out 3).trans rfl, (blk_cell BK281.out 4).trans rfl, (blk_cell BK281.out 5).trans rfl, (blk_cell BK305.out 0).trans rfl, (blk_cell BK305.out 1).trans rfl, (blk_cell BK305.out 2).trans rfl, (blk_cell BK305.out 3).trans rfl, (blk_cell BK305.out 4).trans rfl, (blk_cell BK305.out 5).trans rfl, hx312_0, hx312_1, hx312_2, hx312_3, hx312_4, hx312_5⟩ (fun hHeld => ?_); refine with_tabW switchyardlaw19_DeadBack.tab10 switchyardlaw19_DeadBack.bits10 (fun HT_ HW_ => ?_)
                              generalize w51.drew = w52 at HO_282003 HO_282004 HO291 HO299 HO302 HO309 BK281 BK305 HB HL312_3 HL312_4 HR312_3 HR312_4 hx312_0 hx312_1 hx312_2 hx312_3 hx312_4 hx312_5 hHeld ⊢
                              refine one_ (i := 0) (N := some 59) #[true, false, false, false, false, false, false, false, false, false, false, false, false, false, false, false, false, false, false, false, false, false, false, false, false, false, false, false, false, false, false, false, false, false, false, false, false, false, false, false, false, false, false, false, false, false, false, false] rfl rfl (one_of HT_.out (by kernel_rfl)) (by decide) (fun K hK => ?_)
                              refine goes_ Tryd.func7 (by kernel_rfl) rfl #[] (by rfl) rfl rfl (by (try simp only [List.map_toArray, List.map_cons, List.map_nil]); first | done | rfl | (simp only [List.length_drop, List.length_take]; rfl)) ?_
                              with_reducible refine (switchyardlaw19_awake.calls kj4  true _ A25.out (Tabs.below HT.out (by repeat (first | (with_reducible first | exact HB.out | apply below_alloc | apply pw_below_drewN | apply below_drew1 | refine below_set ?_ GE281.out | refine below_set ?_ GE305.out) | exact HB.out)))).mono ?_
                              rintro e w53 ⟨rfl, hb⟩
                              have HS12_ := (hb.cell (World.block_lt_of_cell? _ _ (hHeld.2.2.2.2.2.2.2.2.2.2.2.2.1))).trans (hHeld.2.2.2.2.2.2.2.2.2.2.2.2.1)
                              have HS13_ := (hb.cell (World.block_lt_of_cell? _ _ (hHeld.2.2.2.2.2.2.2.2.2.2.2.2.2.1))).trans (hHeld.2.2.2.2.2.2.2.2.2.2.2.2.2.1)
                              have HS14_ := (hb.cell (World.block_lt_of_cell? _ _ (hHeld.2.2.2.2.2.2.2.2.2.2.2.2.2.2.1))).trans (hHeld.2.2.2.2.2.2.2.2.2.2.2.2.2.2.1)
                              have HS15_ := (hb.cell (World.block_lt_of_cell? _ _ (hHeld.2.2.2.2.2.2.2.2.2.2.2.2.2.2.2.1))).trans (hHeld.2.2.2.2.2.2.2.2.2.2.2.2.2.2.2.1)
                              have HS16_ := (hb.cell (World.block_lt_of_cell? _ _ (hHeld.2.2.2.2.2.2.2.2.2.2.2.2.2.2.2.2.1))).trans (hHeld.2.2.2.2.2.2.2.2.2.2.2.2.2.2.2.2.1)
                              have HS17_ := (hb.cell (World.block_lt_of_cell? _ _ (hHeld.2.2.2.2.2.2.2.2.2.2.2.2.2.2.2.2.2))).trans (hHeld.2.2.2.2.2.2.2.2.2.2.2.2.2.2.2.2.2)
                              have HR312_3 := Aside0.mk (Kd.C_below HR312_3.out hb)
                              have HR312_4 := Aside0.mk (Kd.C_below HR312_4.out hb)
                              have HL312_3 := Aside0.mk (Kd.V_below HL312_3.out hb)
                              have HL312_4 := Aside0.mk (Kd.V_below HL312_4.out hb)
                              refine ⟨_, rfl, ?_⟩
                              have n0_ := Aside0.mk (Kd.V_below (by (with_reducible repeat (first | apply Kd.V_alloc | apply Kd.V_drewN | apply Kd.V_drew)); exact HO_282003.out) hb)
                              have n1_ := Aside0.mk (Kd.V_below (by (with_reducible repeat (first | apply Kd.V_alloc | apply Kd.V_drewN | apply Kd.V_drew)); exact HO_282004.out) hb)
                              have n2_ := Aside0.mk (Kd.N_below (by (with_reducible repeat (first | apply Kd.N_alloc | apply Kd.N_drewN | apply Kd.N_drew)); exact HO291.out) hb)
                              have n3_ := Aside0.mk (Kd.N_below (by (with_reducible repeat (first | apply Kd.N_alloc | apply Kd.N_drewN | apply Kd.N_drew)); exact HO299.out) hb)
                              have n4_ := Aside0.mk (Kd.N_below (by (with_reducible repeat (first | apply Kd.N_alloc | apply Kd.N_drewN | apply Kd.N_drew)); exact HO302.out) hb)
                              have n5_ := Aside0.mk (Kd.N_below (by (with_reducible repeat (first | apply Kd.N_alloc | apply Kd.N_drewN | apply Kd.N_drew)); exact HO309.out) hb)
                              have n6_ := Aside0.mk (blk_below (g := gb281) (o := .cells #[.int .i64 a1_0, .int .i64 a1_1, .string a1_2, .slice A1_3 l1_3.length c1_3, .slice A1_4 l1_4.length c1_4, .int .i64 a1_5] 27 (0, 0)) (by (with_reducible repeat (first | refine blk_drewN ?_ _ | refine blk_drew ?_ | refine blk_alloc ?_ _)); exact BK281.out) hb)
                              have n7_ := Aside0.mk (blk_below (g := gb305) (o := .cells #[.int .i64 t294, .int .i64 t295, .string t296, .slice Ao48 t297.length co48, .slice Ao49 t300.length co49, .int .i64 t303] 27 (0, 0)) (by (with_reducible repeat (first | refine blk_drewN ?_ _ | refine blk_drew ?_ | refine blk_alloc ?_ _)); exact BK305.out) hb)
                              have n8_ := Aside0.mk (below_step (by repeat (first | (with_reducible first | exact HB.out | apply below_alloc | apply pw_below_drewN | apply below_drew1 | refine below_set ?_ GE281.out | refine below_set ?_ GE305.out) | exact HB.out)) hb)
                              clear HO_282003
                              clear HO_282004
                              clear HO291
                              clear HO299
                              clear HO302
                              clear HO309
                              clear BK281
                              clear BK305
                              clear HB
                              have HO_282003 := n0_
                              have HO_282004 := n1_
                              have HO291 := n2_
                              have HO299 := n3_
                              have HO302 := n4_
                              have HO309 := n5_
                              have BK281 := n6_
                              have BK305 := n7_
                              have HB := n8_
                              clear n0_ n1_ n2_ n3_ n4_ n5_ n6_ n7_ n8_
                              (try clear hb)
                              (try clear hb2)
                              (try clear hk)
                              (try clear hi)
                              refine hK.out _ _ ⟨(blk_cell BK281.out 0).trans rfl, (blk_cell BK281.out 1).trans rfl, (blk_cell BK281.out 2).trans rfl, (blk_cell BK281.out 3).trans rfl, (blk_cell BK281.out 4).trans rfl, (blk_cell BK281.out 5).trans rfl, (blk_cell BK305.out 0).trans rfl, (blk_cell BK305.out 1).trans rfl, (blk_cell BK305.out 2).trans rfl, (blk_cell BK305.out 3).trans rfl, (blk_cell BK305.out 4).trans rfl, (blk_cell BK305.out 5).trans rfl, HS12_, HS13_, HS14_, HS15_, HS16_, HS17_⟩ (fun hHeld => ?_)
                              clear hK K
                              refine norm_ (a' := ?_) ?_ ?_
                              rotate_left
                              · show Act.put _ (some 59) _ = _
                                simp only [Act.put, List.setIfInBounds_toArray, List.set_cons_zero, List.set_cons_succ, i64_w, i32_w]
                                rfl
                              refine pure_ (i := 1) (N := some 60) (v := ?_) (a' := ?_) #[true, true, false, false, false, false, false, false, false, false, false, false, false, false, false, false, false, false, false, false, false, false, false, false, false, false, false, false, false, false, false, false, false, false, false, false, false, false, false, false, false, false, false, false, false, false, false, false] rfl rfl (any_of HT_.out (by kernel_rfl)) (fun _ _ _ h => h) (Or.inl ⟨by rfl, ?_⟩) ?_ ?_
                              rotate_left
                              · intro w'
                                go_simp
                                with_reducible rfl
                              rotate_left
                              · simp only [Act.put, List.setIfInBounds_toArray, List.set_cons_zero, List.set_cons_succ, i64_w, i32_w]
                                rfl
                              refine pure_ (i := 2) (N := some 61) (v := ?_) (a' := ?_) #[true, true, true, false, false, false, false, false, false, false, false, false, false, false, false, false, false, false, false, false, false, false, false, false, false, false, false, false, false, false, false, false, false, false, false, false, false, false, false, false, false, false, false, false, false, false, false, false] rfl rfl (any_of HT_.out (by kernel_rfl)) (fun _ _ _ h => h) (Or.inl ⟨by rfl, ?_⟩) ?_ ?_
                              rotate_left
                              · intro w'
                                go_simp
                                with_reducible rfl
                              rotate_left
                              · simp only [Act.put, List.setIfInBounds_toArray, List.set_cons_zero, List.set_cons_succ, i64_w, i32_w]
                                rfl
                              refine pure_ (i := 3) (N := some 62) (v := ?_) (a' := ?_) #[true, true, true, true, false, false, false, false, false, false, false, false, false, false, false, false, false, false, false, false, false, false, false, false, false, false, false, false, false, false, false, false, false, false, false, false, false, false, false, false, false, false, false, false, false, false, false, false] rfl rfl (any_of HT_.out (by kernel_rfl)) (fun _ _ _ h => h) (Or.inl ⟨by rfl, ?_⟩) ?_ ?_
                              rotate_left
                              · intro w'
                                go_simp
                                with_reducible rfl
                              rotate_left
                              · simp only [Act.put, List.setIfInBounds_toArray, List.set_cons_zero, List.set_cons_succ, i64_w, i32_w]
                                rfl
                              refine pure_ (i := 4) (N := some 63) (v := ?_) (a' := ?_) #[true, true, true, true, true, false, false, false, false, false, false, false, false, false, false, false, false, false, false, false, false, false, false, false, false, false, false, false, false, false, false, false, false, false, false, false, false, false, false, false, false, false, false, false, false, false, false, false] rfl rfl (any_of HT_.out (by kernel_rfl)) (fun _ _ _ h => h) (Or.inl ⟨by rfl, ?_⟩) ?_ ?_
                              rotate_left
                              · intro w'
                                go_simp
                                with_reducible rfl
                              rotate_left
                              · simp only [Act.put, List.setIfInBounds_toArray, List.set_cons_zero, List.set_cons_succ, i64_w, i32_w]
                                rfl
                              refine take_ (i := 5) (N := some 64) (v := ?_) (a' := ?_) #[true, true, true, true, true, true, false, false, false, false, false, false, false, false, false, false, false, false, false, false, false, false, false, false, false, false, false, false, false, false, false, false, false, false, false, false, false, false, false, false, false, false, false, false, false, false, false, false] rfl rfl (take_ofW HT_.out HW_.out (by kernel_rfl)) (fun _ _ _ h => h) (Or.inl ⟨by rfl, ?_⟩) hHeld ?_ ?_
                              rotate_left
                              · rintro w' ⟨s0, s1, s2, s3, s4, s5, s6, s7, s8, s9, s10, s11, s12, s13, s14, s15, s16, s17⟩
                                go_simp
                                with_reducible rfl
                              rotate_left
                              · simp only [Act.put, List.setIfInBounds_toArray, List.set_cons_zero, List.set_cons_succ, i64_w, i32_w]
                                rfl
                              refine take_ (i := 6) (N := some 65) (v := ?_) (a' := ?_) #[true, true, true, true, true, true, true, false, false, false, false, false, false, false, false, false, false, false, false, false, false, false, false, false, false, false, false, false, false, false, false, false, false, false, false, false, false, false, false, false, false, false, false, false, false, false, false, false] rfl rfl (take_ofW HT_.out HW_.out (by kernel_rfl)) (fun _ _ _ h => h) (Or.inl ⟨by rfl, ?_⟩) hHeld ?_ ?_
                              rotate_left
                              · rintro w' ⟨s0, s1, s2, s3, s4, s5, s6, s7, s8, s9, s10, s11, s12, s13, s14, s15, s16, s17⟩
                                go_simp
                                with_reducible rfl
                              rotate_left
                              · simp only [Act.put, List.setIfInBounds_toArray, List.set_cons_zero, List.set_cons_succ, i64_w, i32_w]
                                rfl
                              refine one_ (i := 7) (N := some 66) #[true, true, true, true, true, true, true, true, false, false, false, false, false, false, false, false, false, false, false, false, false, false, false, false, false, false, false, false, false, false, false, false, false, false, false, false, false, false, false, false, false, false, false, false, false, false, false, false] rfl rfl (one_of HT_.out (by kernel_rfl)) (by decide) (fun K hK => ?_)
                              refine goes_ Tryd.func18 (by kernel_rfl) rfl #[.agg #[.int .i64 a1_0, .int .i64 a1_1, .string a1_2, .slice A1_3 l1_3.length c1_3, .slice A1_4 l1_4.length c1_4, .int .i64 a1_5], .agg #[.int .i64 t294, .int .i64 t295, .string t296, .slice Ao48 t297.length co48, .slice Ao49 t300.length co49, .int .i64 t303]] (by rfl) rfl rfl (by (try simp only [List.map_toArray, List.map_cons, List.map_nil]); first | done | rfl | (simp only [List.length_drop, List.length_take]; rfl)) ?_
                              with_reducible refine (switchyardref13_SameDead.calls kj4 a1_0 a1_1 a1_2 _ _ l1_3 _ _ l1_4 a1_5 t294 t295 t296 _ _ t297 _ _ t300 t303 true _ ?side1 ?side2 ?side3 ?side4 ?side5 ?side6 ?side7 ?side8 A28.out).mono ?_
                              (case side1 => repeat (first | exact (Kd.V_reads' HO_282003.out).2.2 | (with_reducible refine Kd.C_alloc ?_ _) | (with_reducible refine Kd.C_drewN ?_ _) | (with_reducible refine Kd.C_drew ?_)))
                              (case side2 => exact (Kd.V_reads' HO_282003.out).2.1)
                              (case side3 => repeat (first | exact (Kd.V_reads' HO_282004.out).2.2 | (with_reducible refine Kd.C_alloc ?_ _) | (with_reducible refine Kd.C_drewN ?_ _) | (with_reducible refine Kd.C_drew ?_)))
                              (case side4 => exact (Kd.V_reads' HO_282004.out).2.1)
                              (case side5 => repeat (first | exact (Kd.N_reads' HO299.out).2.2 | (with_reducible refine Kd.C_alloc ?_ _) | (with_reducible refine Kd.C_drewN ?_ _) | (with_reducible refine Kd.C_drew ?_)))
                              (case side6 => exact (Kd.N_reads' HO299.out).2.1)
                              (case side7 => repeat (first | exact (Kd.N_reads' HO302.out).2.2 | (with_reducible refine Kd.C_alloc ?_ _) | (with_reducible refine Kd.C_drewN ?_ _) | (with_reducible refine Kd.C_drew ?_)))
                              (case side8 => exact (Kd.N_reads' HO302.out).2.1)
                              rintro e w54 ⟨rfl, hb⟩
                              have HS12_ := (hb.cell (World.block_lt_of_cell? _ _ (hHeld.2.2.2.2.2.2.2.2.2.2.2.2.1))).trans (hHeld.2.2.2.2.2.2.2.2.2.2.2.2.1)
                              have HS13_ := (hb.cell (World.block_lt_of_cell? _ _ (hHeld.2.2.2.2.2.2.2.2.2.2.2.2.2.1))).trans (hHeld.2.2.2.2.2.2.2.2.2.2.2.2.2.1)
                              have HS14_ := (hb.cell (World.block_lt_of_cell? _ _ (hHeld.2.2.2.2.2.2.2.2.2.2.2.2.2.2.1))).trans (hHeld.2.2.2.2.2.2.2.2.2.2.2.2.2.2.1)
                              have HS15_ := (hb.cell (World.block_lt_of_cell? _ _ (hHeld.2.2.2.2.2.2.2.2.2.2.2.2.2.2.2.1))).trans (hHeld.2.2.2.2.2.2.2.2.2.2.2.2.2.2.2.1)
                              have HS16_ := (hb.cell (World.block_lt_of_cell? _ _ (hHeld.2.2.2.2.2.2.2.2.2.2.2.2.2.2.2.2.1))).trans (hHeld.2.2.2.2.2.2.2.2.2.2.2.2.2.2.2.2.1)
                              have HS17_ := (hb.cell (World.block_lt_of_cell? _ _ (hHeld.2.2.2.2.2.2.2.2.2.2.2.2.2.2.2.2.2))).trans (hHeld.2.2.2.2.2.2.2.2.2.2.2.2.2.2.2.2.2)
                              have HR312_3 := Aside0.mk (Kd.C_below HR312_3.out hb)
                              have HR312_4 := Aside0.mk (Kd.C_below HR312_4.out hb)
                              have HL312_3 := Aside0.mk (Kd.V_below HL312_3.out hb)
                              have HL312_4 := Aside0.mk (Kd.V_below HL312_4.out hb)
                              refine ⟨_, rfl, ?_⟩
                              have n0_ := Aside0.mk (Kd.V_below (by (with_reducible repeat (first | apply Kd.V_alloc | apply Kd.V_drewN | apply Kd.V_drew)); exact HO_282003.out) hb)
                              have n1_ := Aside0.mk (Kd.V_below (by (with_reducible repeat (first | apply Kd.V_alloc | apply Kd.V_drewN | apply Kd.V_drew)); exact HO_282004.out) hb)
                              have n2_ := Aside0.mk (Kd.N_below (by (with_reducible repeat (first | apply Kd.N_alloc | apply Kd.N_drewN | apply Kd.N_drew)); exact HO291.out) hb)
                              have n3_ := Aside0.mk (Kd.N_below (by (with_reducible repeat (first | apply Kd.N_alloc | apply Kd.N_drewN | apply Kd.N_drew)); exact HO299.out) hb)
                              have n4_ := Aside0.mk (Kd.N_below (by (with_reducible repeat (first | apply Kd.N_alloc | apply Kd.N_drewN | apply Kd.N_drew)); exact HO302.out) hb)
                              have n5_ := Aside0.mk (Kd.N_below (by (with_reducible repeat (first | apply Kd.N_alloc | apply Kd.N_drewN | apply Kd.N_drew)); exact HO309.out) hb)
                              have n6_ := Aside0.mk (blk_below (g := gb281) (o := .cells #[.int .i64 a1_0, .int .i64 a1_1, .string a1_2, .slice A1_3 l1_3.length c1_3, .slice A1_4 l1_4.length c1_4, .int .i64 a1_5] 27 (0, 0)) (by (with_reducible repeat (first | refine blk_drewN ?_ _ | refine blk_drew ?_ | refine blk_alloc ?_ _)); exact BK281.out) hb)
                              have n7_ := Aside0.mk (blk_below (g := gb305) (o := .cells #[.int .i64 t294, .int .i64 t295, .string t296, .slice Ao48 t297.length co48, .slice Ao49 t300.length co49, .int .i64 t303] 27 (0, 0)) (by (with_reducible repeat (first | refine blk_drewN ?_ _ | refine blk_drew ?_ | refine blk_alloc ?_ _)); exact BK305.out) hb)
                              have n8_ := Aside0.mk (below_step (by repeat (first | (with_reducible first | exact HB.out | apply below_alloc | apply pw_below_drewN | apply below_drew1 | refine below_set ?_ GE281.out | refine below_set ?_ GE305.out) | exact HB.out)) hb)
                              clear HO_282003
                              clear HO_282004
                              clear HO291
                              clear HO299
                              clear HO302
                              clear HO309
                              clear BK281
                              clear BK305
                              clear HB
                              have HO_282003 := n0_
                              have HO_282004 := n1_
                              have HO291 := n2_
                              have HO299 := n3_
                              have HO302 := n4_
                              have HO309 := n5_
                              have BK281 := n6_
                              have BK305 := n7_
                              have HB := n8_
                              clear n0_ n1_ n2_ n3_ n4_ n5_ n6_ n7_ n8_
                              (try clear hb)
                              (try clear hb2)
                              (try clear hk)
                              (try clear hi)
                              refine hK.out _ _ ⟨(blk_cell BK281.out 0).trans rfl, (blk_cell BK281.out 1).trans rfl, (blk_cell BK281.out 2).trans rfl, (blk_cell BK281.out 3).trans rfl, (blk_cell BK281.out 4).trans rfl, (blk_cell BK281.out 5).trans rfl, (blk_cell BK305.out 0).trans rfl, (blk_cell BK305.out 1).trans rfl, (blk_cell BK305.out 2).trans rfl, (blk_cell BK305.out 3).trans rfl, (blk_cell BK305.out 4).trans rfl, (blk_cell BK305.out 5).trans rfl, HS12_, HS13_, HS14_, HS15_, HS16_, HS17_⟩ (fun hHeld => ?_)
                              clear hK K
                              refine norm_ (a' := ?_) ?_ ?_
                              rotate_left
                              · show Act.put _ (some 66) _ = _
                                simp only [Act.put, List.setIfInBounds_toArray, List.set_cons_zero, List.set_cons_succ, i64_w, i32_w]
                                rfl
                              refine pure_ (i := 8) (N := some 67) (v := ?_) (a' := ?_) #[true, true, true, true, true, true, true, true, true, false, false, false, false, false, false, false, false, false, false, false, false, false, false, false, false, false, false, false, false, false, false, false, false, false, false, false, false, false, false, false, false, false, false, false, false, false, false, false] rfl rfl (any_of HT_.out (by kernel_rfl)) (fun _ _ _ h => h) (Or.inl ⟨by rfl, ?_⟩) ?_ ?_
                              rotate_left
                              · intro w'
                                go_simp
                                with_reducible rfl
                              rotate_left
                              · simp only [Act.put, List.setIfInBounds_toArray, List.set_cons_zero, List.set_cons_succ, i64_w, i32_w]
                                rfl
                              refine pure_ (i := 9) (N := some 68) (v := ?_) (a' := ?_) #[true, true, true, true, true, true, true, true, true, true, false, false, false, false, false, false, false, false, false, false, false, false, false, false, false, false, false, false, false, false, false, false, false, false, false, false, false, false, false, false, false, false, false, false, false, false, false, false] rfl rfl (any_of HT_.out (by kernel_rfl)) (fun _ _ _ h => h) (Or.inl ⟨by rfl, ?_⟩) ?_ ?_
                              rotate_left
                              · intro w'
                                go_simp
                                with_reducible rfl
                              rotate_left
                              · simp only [Act.put, List.setIfInBounds_toArray, List.set_cons_zero, List.set_cons_succ, i64_w, i32_w]
                                rfl
                              refine pure_ (i := 10) (N := some 69) (v := ?_) (a' := ?_) #[true, true, true, true, true, true, true, true, true, true, true, false, false, false, false, false, false, false, false, false, false, false, false, false, false, false, false, false, false, false, false, false, false, false, false, false, false, false, false, false, false, false, false, false, false, false, false, false] rfl rfl (any_of HT_.out (by kernel_rfl)) (fun _ _ _ h => h) (Or.inl ⟨by rfl, ?_⟩) ?_ ?_
                              rotate_left
                              · intro w'
                                go_simp
                                with_reducible rfl
                              rotate_left
                              · simp only [Act.put, List.setIfInBounds_toArray, List.set_cons_zero, List.set_cons_succ, i64_w, i32_w]
                                rfl
                              refine pure_ (i := 11) (N := some 70) (v := ?_) (a' := ?_) #[true, true, true, true, true, true, true, true, true, true, true, true, false, false, false, false, false, false, false, false, false, false, false, false, false, false, false, false, false, false, false, false, false, false, false, false, false, false, false, false, false, false, false, false, false, false, false, false] rfl rfl (any_of HT_.out (by kernel_rfl)) (fun _ _ _ h => h) (Or.inl ⟨by rfl, ?_⟩) ?_ ?_
                              rotate_left
                              · intro w'
                                go_simp
                                with_reducible rfl
                              rotate_left
                              · simp only [Act.put, List.setIfInBounds_toArray, List.set_cons_zero, List.set_cons_succ, i64_w, i32_w]
                                rfl
                              refine pure_ (i := 12) (N := some 71) (v := ?_) (a' := ?_) #[true, true, true, true, true, true, true, true, true, true, true, true, true, false, false, false, false, false, false, false, false, false, false, false, false, false, false, false, false, false, false, false, false, false, false, false, false, false, false, false, false, false, false, false, false, false, false, false] rfl rfl (any_of HT_.out (by kernel_rfl)) (fun _ _ _ h => h) (Or.inl ⟨by rfl, ?_⟩) ?_ ?_
                              rotate_left
                              · intro w'
                                go_simp
                                with_reducible rfl
                              rotate_left
                              · simp only [Act.put, List.setIfInBounds_toArray, List.set_cons_zero, List.set_cons_succ, i64_w, i32_w]
                                rfl
                              refine pure_ (i := 13) (N := some 72) (v := ?_) (a' := ?_) #[true, true, true, true, true, true, true, true, true, true, true, true, true, true, false, false, false, false, false, false, false, false, false, false, false, false, false, false, false, false, false, false, false, false, false, false, false, false, false, false, false, false, false, false, false, false, false, false] rfl rfl (any_of HT_.out (by kernel_rfl)) (fun _ _ _ h => h) (Or.inl ⟨by rfl, ?_⟩) ?_ ?_
                              rotate_left
                              · intro w'
                                go_simp
                                with_reducible rfl
                              rotate_left
                              · simp only [Act.put, List.setIfInBounds_toArray, List.set_cons_zero, List.set_cons_succ, i64_w, i32_w]
                                rfl
                              refine pure_ (i := 14) (N := some 73) (v := ?_) (a' := ?_) #[true, true, true, true, true, true, true, true, true, true, true, true, true, true, true, false, false, false, false, false, false, false, false, false, false, false, false, false, false, false, false, false, false, false, false, false, false, false, false, false, false, false, false, false, false, false, false, false] rfl rfl (any_of HT_.out (by kernel_rfl)) (fun _ _ _ h => h) (Or.inl ⟨by rfl, ?_⟩) ?_ ?_
                              rotate_left
                              · intro w'
                                go_simp
                                with_reducible rfl
                              rotate_left
                              · simp only [Act.put, List.setIfInBounds_toArray, List.set_cons_zero, List.set_cons_succ, i64_w, i32_w]
                                rfl
                              refine pure_ (i := 15) (N := some 74) (v := ?_) (a' := ?_) #[true, true, true, true, true, true, true, true, true, true, true, true, true, true, true, true, false, false, false, false, false, false, false, false, false, false, false, false, false, false, false, false, false, false, false, false, false, false, false, false, false, false, false, false, false, false, false, false] rfl rfl (any_of HT_.out (by kernel_rfl)) (fun _ _ _ h => h) (Or.inl ⟨by rfl, ?_⟩) ?_ ?_
                              rotate_left
                              · intro w'
                                go_simp
                                with_reducible rfl
                              rotate_left
                              · simp only [Act.put, List.setIfInBounds_toArray, List.set_cons_zero, List.set_cons_succ, i64_w, i32_w]
                                rfl
                              refine pure_ (i := 16) (N := some 75) (v := ?_) (a' := ?_) #[true, true, true, true, true, true, true, true, true, true, true, true, true, true, true, true, true, false, false, false, false, false, false, false, false, false, false, false, false, false, false, false, false, false, false, false, false, false, false, false, false, false, false, false, false, false, false, false] rfl rfl (any_of HT_.out (by kernel_rfl)) (fun _ _ _ h => h) (Or.inl ⟨by rfl, ?_⟩) ?_ ?_
                              rotate_left
                              · intro w'
                                go_simp
                                with_reducible rfl
                              rotate_left
                              · simp only [Act.put, List.setIfInBounds_toArray, List.set_cons_zero, List.set_cons_succ, i64_w, i32_w]
                                rfl
                              refine pure_ (i := 17) (N := some 76) (v := ?_) (a' := ?_) #[true, true, true, true, true, true, true, true, true, true, true, true, true, true, true, true, true, true, false, false, false, false, false, false, false, false, false, false, false, false, false, false, false, false, false, false, false, false, false, false, false, false, false, false, false, false, false, false] rfl rfl (any_of HT_.out (by kernel_rfl)) (fun _ _ _ h => h) (Or.inl ⟨by rfl, ?_⟩) ?_ ?_
                              rotate_left
                              · intro w'
                                go_simp
                                with_reducible rfl
                              rotate_left
                              · simp only [Act.put, List.setIfInBounds_toArray, List.set_cons_zero, List.set_cons_succ, i64_w, i32_w]
                                rfl
                              refine pure_ (i := 18) (N := some 77) (v := ?_) (a' := ?_) #[true, true, true, true, true, true, true, true, true, true, true, true, true, true, true, true, true, true, true, false, false, false, false, false, false, false, false, false, false, false, false, false, false, false, false, false, false, false, false, false, false, false, false, false, false, false, false, false] rfl rfl (any_of HT_.out (by kernel_rfl)) (fun _ _ _ h => h) (Or.inl ⟨by rfl, ?_⟩) ?_ ?_
                              rotate_left
                              · intro w'
                                go_simp
                                with_reducible rfl
                              rotate_left
                              · simp only [Act.put, List.setIfInBounds_toArray, List.set_cons_zero, List.set_cons_succ, i64_w, i32_w]
                                rfl
                              refine pure_ (i := 19) (N := some 78) (v := ?_) (a' := ?_) #[true, true, true, true, true, true, true, true, true, true, true, true, true, true, true, true, true, true, true, true, false, false, false, false, false, false, false, false, false, false, false, false, false, false, false, false, false, false, false, false, false, false, false, false, false, false, false, false] rfl rfl (any_of HT_.out (by kernel_rfl)) (fun _ _ _ h => h) (Or.inl ⟨by rfl, ?_⟩) ?_ ?_
                              rotate_left
                              · intro w'
                                go_simp
                                with_reducible rfl
                              rotate_left
                              · simp only [Act.put, List.setIfInBounds_toArray, List.set_cons_zero, List.set_cons_succ, i64_w, i32_w]
                                rfl
                              refine pure_ (i := 20) (N := some 79) (v := ?_) (a' := ?_) #[true, true, true, true, true, true, true, true, true, true, true, true, true, true, true, true, true, true, true, true, true, false, false, false, false, false, false, false, false, false, false, false, false, false, false, false, false, false, false, false, false, false, false, false, false, false, false, false] rfl rfl (any_of HT_.out (by kernel_rfl)) (fun _ _ _ h => h) (Or.inl ⟨by rfl, ?_⟩) ?_ ?_
                              rotate_left
                              · intro w'
                                go_simp
                                with_reducible rfl
                              rotate_left
                              · simp only [Act.put, List.setIfInBounds_toArray, List.set_cons_zero, List.set_cons_succ, i64_w, i32_w]
                                rfl
                              refine pure_ (i := 21) (N := some 80) (v := ?_) (a' := ?_) #[true, true, true, true, true, true, true, true, true, true, true, true, true, true, true, true, true, true, true, true, true, true, false, false, false, false, false, false, false, false, false, false, false, false, false, false, false, false, false, false, false, false, false, false, false, false, false, false] rfl rfl (any_of HT_.out (by kernel_rfl)) (fun _ _ _ h => h) (Or.inl ⟨by rfl, ?_⟩) ?_ ?_
                              rotate_left
                              · intro w'
                                go_simp
                                with_reducible rfl
                              rotate_left
                              · simp only [Act.put, List.setIfInBounds_toArray, List.set_cons_zero, List.set_cons_succ, i64_w, i32_w]
                                rfl
                              refine take_ (i := 22) (N := some 81) (v := ?_) (a' := ?_) #[true, true, true, true, true, true, true, true, true, true, true, true, true, true, true, true, true, true, true, true, true, true, true, false, false, false, false, false, false, false, false, false, false, false, false, false, false, false, false, false, false, false, false, false, false, false, false, false] rfl rfl (take_ofW HT_.out HW_.out (by kernel_rfl)) (fun _ _ _ h => h) (Or.inl ⟨by rfl, ?_⟩) hHeld ?_ ?_
                              rotate_left
                              · rintro w' ⟨s0, s1, s2, s3, s4, s5, s6, s7, s8, s9, s10, s11, s12, s13, s14, s15, s16, s17⟩
                                go_simp
                                with_reducible rfl
                              rotate_left
                              · simp only [Act.put, List.setIfInBounds_toArray, List.set_cons_zero, List.set_cons_succ, i64_w, i32_w]
                                rfl
                              refine take_ (i := 23) (N := some 82) (v := ?_) (a' := ?_) #[true, true, true, true, true, true, true, true, true, true, true, true, true, true, true, true, true, true, true, true, true, true, true, true, false, false, false, false, false, false, false, false, false, false, false, false, false, false, false, false, false, false, false, false, false, false, false, false] rfl rfl (take_ofW HT_.out HW_.out (by kernel_rfl)) (fun _ _ _ h => h) (Or.inl ⟨by rfl, ?_⟩) hHeld ?_ ?_
                              rotate_left
                              · rintro w' ⟨s0, s1, s2, s3, s4, s5, s6, s7, s8, s9, s10, s11, s12, s13, s14, s15, s16, s17⟩
                                go_simp
                                with_reducible rfl
                              rotate_left
                              · simp only [Act.put, List.setIfInBounds_toArray, List.set_cons_zero, List.set_cons_succ, i64_w, i32_w]
                                rfl
                              refine one_ (i := 24) (N := some 83) #[true, true, true, true, true, true, true, true, true, true, true, true, true, true, true, true, true, true, true, true, true, true, true, true, true, false, false, false, false, false, false, false, false, false, false, false, false, false, false, false, false, false, false, false, false, false, false, false] rfl rfl (one_of HT_.out (by kernel_rfl)) (by decide) (fun K hK => ?_)
                              refine goes_ Tryd.func18 (by kernel_rfl) rfl #[.agg #[.int .i64 ((rd_T27 t289 (l0.length : Int)).f0), .int .i64 ((rd_T27 t289 (l0.length : Int)).f1.f0), .string ((rd_T27 t289 (l0.length : Int)).f1.f1), .slice A312_3 ((rd_T27 t289 (l0.length : Int)).f1.f2).length c312_3, .slice A312_4 ((rd_T27 t289 (l0.length : Int)).f1.f3).length c312_4, .int .i64 ((rd_T27 t289 (l0.length : Int)).f2)], .agg #[.int .i64 a1_0, .int .i64 a1_1, .string a1_2, .slice A1_3 l1_3.length c1_3, .slice A1_4 l1_4.length c1_4, .int .i64 a1_5]] (by rfl) rfl rfl (by (try simp only [List.map_toArray, List.map_cons, List.map_nil]); first | done | rfl | (simp only [List.length_drop, List.length_take]; rfl)) ?_
                              with_reducible refine (switchyardref13_SameDead.calls kj4 ((rd_T27 t289 (l0.length : Int)).f0) ((rd_T27 t289 (l0.length : Int)).f1.f0) ((rd_T27 t289 (l0.length : Int)).f1.f1) _ _ ((rd_T27 t289 (l0.length : Int)).f1.f2) _ _ ((rd_T27 t289 (l0.length : Int)).f1.f3) ((rd_T27 t289 (l0.length : Int)).f2) a1_0 a1_1 a1_2 _ _ l1_3 _ _ l1_4 a1_5 true _ ?side1 ?side2 ?side3 ?side4 ?side5 ?side6 ?side7 ?side8 A33.out).mono ?_
                              (case side1 => repeat (first | exact (by repeat (first | (with_reducible exact HR312_3.out) | (with_reducible refine Kd.C_alloc ?_ _) | (with_reducible refine Kd.C_drewN ?_ _) | (with_reducible refine Kd.C_drew ?_) | exact HR312_3.out)) | (with_reducible refine Kd.C_alloc ?_ _) | (with_reducible refine Kd.C_drewN ?_ _) | (with_reducible refine Kd.C_drew ?_)))
                              (case side2 => exact HC312_3.out)
                              (case side3 => repeat (first | exact (by repeat (first | (with_reducible exact HR312_4.out) | (with_reducible refine Kd.C_alloc ?_ _) | (with_reducible refine Kd.C_drewN ?_ _) | (with_reducible refine Kd.C_drew ?_) | exact HR312_4.out)) | (with_reducible refine Kd.C_alloc ?_ _) | (with_reducible refine Kd.C_drewN ?_ _) | (with_reducible refine Kd.C_drew ?_)))
                              (case side4 => exact HC312_4.out)
                              (case side5 => repeat (first | exact (Kd.V_reads' HO_282003.out).2.2 | (with_reducible refine Kd.C_alloc ?_ _) | (with_reducible refine Kd.C_drewN ?_ _) | (with_reducible refine Kd.C_drew ?_)))
                              (case side6 => exact (Kd.V_reads' HO_282003.out).2.1)
                              (case side7 => repeat (first | exact (Kd.V_reads' HO_282004.out).2.2 | (with_reducible refine Kd.C_alloc ?_ _) | (with_reducible refine Kd.C_drewN ?_ _) | (with_reducible refine Kd.C_drew ?_)))
                              (case side8 => exact (Kd.V_reads' HO_282004.out).2.1)
                              rintro e w55 ⟨rfl, hb⟩
                              have HS12_ := (hb.cell (World.block_lt_of_cell? _ _ (hHeld.2.2.2.2.2.2.2.2.2.2.2.2.1))).trans (hHeld.2.2.2.2.2.2.2.2.2.2.2.2.1)
                              have HS13_ := (hb.cell (World.block_lt_of_cell? _ _ (hHeld.2.2.2.2.2.2.2.2.2.2.2.2.2.1))).trans (hHeld.2.2.2.2.2.2.2.2.2.2.2.2.2.1)
                              have HS14_ := (hb.cell (World.block_lt_of_cell? _ _ (hHeld.2.2.2.2.2.2.2.2.2.2.2.2.2.2.1))).trans (hHeld.2.2.2.2.2.2.2.2.2.2.2.2.2.2.1)
                              have HS15_ := (hb.cell (World.block_lt_of_cell? _ _ (hHeld.2.2.2.2.2.2.2.2.2.2.2.2.2.2.2.1))).trans (hHeld.2.2.2.2.2.2.2.2.2.2.2.2.2.2.2.1)
                              have HS16_ := (hb.cell (World.block_lt_of_cell? _ _ (hHeld.2.2.2.2.2.2.2.2.2.2.2.2.2.2.2.2.1))).trans (hHeld.2.2.2.2.2.2.2.2.2.2.2.2.2.2.2.2.1)
                              have HS17_ := (hb.cell (World.block_lt_of_cell? _ _ (hHeld.2.2.2.2.2.2.2.2.2.2.2.2.2.2.2.2.2))).trans (hHeld.2.2.2.2.2.2.2.2.2.2.2.2.2.2.2.2.2)
                              refine ⟨_, rfl, ?_⟩
                              have n0_ := Aside0.mk (Kd.V_below (by (with_reducible repeat (first | apply Kd.V_alloc | apply Kd.V_drewN | apply Kd.V_drew)); exact HO_282003.out) hb)
                              have n1_ := Aside0.mk (Kd.V_below (by (with_reducible repeat (first | apply Kd.V_alloc | apply Kd.V_drewN | apply Kd.V_drew)); exact HO_282004.out) hb)
                              have n2_ := Aside0.mk (Kd.N_below (by (with_reducible repeat (first | apply Kd.N_alloc | apply Kd.N_drewN | apply Kd.N_drew)); exact HO291.out) hb)
                              have n3_ := Aside0.mk (Kd.N_below (by (with_reducible repeat (first | apply Kd.N_alloc | apply Kd.N_drewN | apply Kd.N_drew)); exact HO299.out) hb)
                              have n4_ := Aside0.mk (Kd.N_below (by (with_reducible repeat (first | apply Kd.N_alloc | apply Kd.N_drewN | apply Kd.N_drew)); exact HO302.out) hb)
                              have n5_ := Aside0.mk (Kd.N_below (by (with_reducible repeat (first | apply Kd.N_alloc | apply Kd.N_drewN | apply Kd.N_drew)); exact HO309.out) hb)
                              have n6_ := Aside0.mk (Kd.V_below (by (with_reducible repeat (first | apply Kd.V_alloc | apply Kd.V_drewN | apply Kd.V_drew)); exact HL312_3.out) hb)
                              have n7_ := Aside0.mk (Kd.V_below (by (with_reducible repeat (first | apply Kd.V_alloc | apply Kd.V_drewN | apply Kd.V_drew)); exact HL312_4.out) hb)
                              have n8_ := Aside0.mk (blk_below (g := gb281) (o := .cells #[.int .i64 a1_0, .int .i64 a1_1, .string a1_2, .slice A1_3 l1_3.length c1_3, .slice A1_4 l1_4.length c1_4, .int .i64 a1_5] 27 (0, 0)) (by (with_reducible repeat (first | refine blk_drewN ?_ _ | refine blk_drew ?_ | refine blk_alloc ?_ _)); exact BK281.out) hb)
                              have n9_ := Aside0.mk (blk_below (g := gb305) (o := .cells #[.int .i64 t294, .int .i64 t295, .string t296, .slice Ao48 t297.length co48, .slice Ao49 t300.length co49, .int .i64 t303] 27 (0, 0)) (by (with_reducible repeat (first | refine blk_drewN ?_ _ | refine blk_drew ?_ | refine blk_alloc ?_ _)); exact BK305.out) hb)
                              have n10_ := Aside0.mk (Kd.C_below (by repeat (first | (with_reducible exact HR312_3.out) | (with_reducible refine Kd.C_alloc ?_ _) | (with_reducible refine Kd.C_drewN ?_ _) | (with_reducible refine Kd.C_drew ?_) | exact HR312_3.out)) hb)
                              have n11_ := Aside0.mk (Kd.C_below (by repeat (first | (with_reducible exact HR312_4.out) | (with_reducible refine Kd.C_alloc ?_ _) | (with_reducible refine Kd.C_drewN ?_ _) | (with_reducible refine Kd.C_drew ?_) | exact HR312_4.out)) hb)
                              have n12_ := Aside0.mk (below_step (by repeat (first | (with_reducible first | exact HB.out | apply below_alloc | apply pw_below_drewN | apply below_drew1 | refine below_set ?_ GE281.out | refine below_set ?_ GE305.out) | exact HB.out)) hb)
                              clear HO_282003
                              clear HO_282004
                              clear HO291
                              clear HO299
                              clear HO302
                              clear HO309
                              clear HL312_3
                              clear HL312_4
                              clear BK281
                              clear BK305
                              clear HR312_3
                              clear HR312_4
                              clear HB
                              have HO_282003 := n0_
                              have HO_282004 := n1_
                              have HO291 := n2_
                              have HO299 := n3_
                              have HO302 := n4_
                              have HO309 := n5_
                              have HL312_3 := n6_
                              have HL312_4 := n7_
                              have BK281 := n8_
                              have BK305 := n9_
                              have HR312_3 := n10_
                              have HR312_4 := n11_
                              have HB := n12_
                              clear n0_ n1_ n2_ n3_ n4_ n5_ n6_ n7_ n8_ n9_ n10_ n11_ n12_
                              (try clear hb)
                              (try clear hb2)
                              (try clear hk)
                              (try clear hi)
                              obtain ⟨Ao56, co56, eo56⟩ := Kd.N_slice HO309.out
                              (first | subst eo56 | (injection eo56 with f1_ f2_ f3_; have f4_ := f1_.symm; have f5_ := f3_.symm; clear f1_ f2_ f3_; subst f4_; subst f5_))
                              refine hK.out _ _ ⟨(blk_cell BK281.out 0).trans rfl, (blk_cell BK281.out 1).trans rfl, (blk_cell BK281.out 2).trans rfl, (blk_cell BK281.out 3).trans rfl, (blk_cell BK281.out 4).trans rfl, (blk_cell BK281.out 5).trans rfl, (blk_cell BK305.out 0).trans rfl, (blk_cell BK305.out 1).trans rfl, (blk_cell BK305.out 2).trans rfl, (blk_cell BK305.out 3).trans rfl, (blk_cell BK305.out 4).trans rfl, (blk_cell BK305.out 5).trans rfl, HS12_, HS13_, HS14_, HS15_, HS16_, HS17_⟩ (fun hHeld => ?_)
                              clear hK K
                              refine norm_ (a' := ?_) ?_ ?_
                              rotate_left
                              · show Act.put _ (some 83) _ = _
                                simp only [Act.put, List.setIfInBounds_toArray, List.set_cons_zero, List.set_cons_succ, i64_w, i32_w]
                                rfl
                              refine pure_ (i := 25) (N := some 84) (v := ?_) (a' := ?_) #[true, true, true, true, true, true, true, true, true, true, true, true, true, true, true, true, true, true, true, true, true, true, true, true, true, true, false, false, false, false, false, false, false, false, false, false, false, false, false, false, false, false, false, false, false, false, false, false] rfl rfl (any_of HT_.out (by kernel_rfl)) (fun _ _ _ h => h) (Or.inl ⟨by rfl, ?_⟩) ?_ ?_
                              rotate_left
                              · intro w'
                                go_simp
                                with_reducible rfl
                              rotate_left
                              · simp only [Act.put, List.setIfInBounds_toArray, List.set_cons_zero, List.set_cons_succ, i64_w, i32_w]
                                rfl
                              refine pure_ (i := 26) (N := some 85) (v := ?_) (a' := ?_) #[true, true, true, true, true, true, true, true, true, true, true, true, true, true, true, true, true, true, true, true, true, true, true, true, true, true, true, false, false, false, false, false, false, false, false, false, false, false, false, false, false, false, false, false, false, false, false, false] rfl rfl (any_of HT_.out (by kernel_rfl)) (fun _ _ _ h => h) (Or.inl ⟨by rfl, ?_⟩) ?_ ?_
                              rotate_left
                              · intro w'
                                go_simp
                                with_reducible rfl
                              rotate_left
                              · simp only [Act.put, List.setIfInBounds_toArray, List.set_cons_zero, List.set_cons_succ, i64_w, i32_w]
                                rfl
                              refine pure_ (i := 27) (N := some 86) (v := ?_) (a' := ?_) #[true, true, true, true, true, true, true, true, true, true, true, true, true, true, true, true, true, true, true, true, true, true, true, true, true, true, true, true, false, false, false, false, false, false, false, false, false, false, false, false, false, false, false, false, false, false, false, false] rfl rfl (any_of HT_.out (by kernel_rfl)) (fun _ _ _ h => h) (Or.inl ⟨by rfl, ?_⟩) ?_ ?_
                              rotate_left
                              · intro w'
                                go_simp
                                with_reducible rfl
                              rotate_left
                              · simp only [Act.put, List.setIfInBounds_toArray, List.set_cons_zero, List.set_cons_succ, i64_w, i32_w]
                                rfl
                              refine pure_ (i := 28) (N := some 87) (v := ?_) (a' := ?_) #[true, true, true, true, true, true, true, true, true, true, true, true, true, true, true, true, true, true, true, true, true, true, true, true, true, true, true, true, true, false, false, false, false, false, false, false, false, false, false, false, false, false, false, false, false, false, false, false] rfl rfl (any_of HT_.out (by kernel_rfl)) (fun _ _ _ h => h) (Or.inl ⟨by rfl, ?_⟩) ?_ ?_
                              rotate_left
                              · intro w'
                                go_simp
                                with_reducible rfl
                              rotate_left
                              · simp only [Act.put, List.setIfInBounds_toArray, List.set_cons_zero, List.set_cons_succ, i64_w, i32_w]
                                rfl
                              refine pure_ (i := 29) (N := some 88) (v := ?_) (a' := ?_) #[true, true, true, true, true, true, true, true, true, true, true, true, true, true, true, true, true, true, true, true, true, true, true, true, true, true, true, true, true, true, false, false, false, false, false, false, false, false, false, false, false, false, false, false, false, false, false, false] rfl rfl (any_of HT_.out (by kernel_rfl)) (fun _ _ _ h => h) (Or.inl ⟨by rfl, ?_⟩) ?_ ?_
                              rotate_left
                              · intro w'
                                go_simp
                                with_reducible rfl
                              rotate_left
                              · simp only [Act.put, List.setIfInBounds_toArray, List.set_cons_zero, List.set_cons_succ, i64_w, i32_w]
                                rfl
                              refine pure_ (i := 30) (N := some 89) (v := ?_) (a' := ?_) #[true, true, true, true, true, true, true, true, true, true, true, true, true, true, true, true, true, true, true, true, true, true, true, true, true, true, true, true, true, true, true, false, false, false, false, false, false, false, false, false, false, false, false, false, false, false, false, false] rfl rfl (any_of HT_.out (by kernel_rfl)) (fun _ _ _ h => h) (Or.inl ⟨by rfl, ?_⟩) ?_ ?_
                              rotate_left
                              · intro w'
                                go_simp
                                with_reducible rfl
                              rotate_left
                              · simp only [Act.put, List.setIfInBounds_toArray, List.set_cons_zero, List.set_cons_succ, i64_w, i32_w]
                                rfl
                              refine pure_ (i := 31) (N := some 90) (v := ?_) (a' := ?_) #[true, true, true, true, true, true, true, true, true, true, true, true, true, true, true, true, true, true, true, true, true, true, true, true, true, true, true, true, true, true, true, true, false, false, false, false, false, false, false, false, false, false, false, false, false, false, false, false] rfl rfl (any_of HT_.out (by kernel_rfl)) (fun _ _ _ h => h) (Or.inl ⟨by rfl, ?_⟩) ?_ ?_
                              rotate_left
                              · intro w'
                                go_simp
                                with_reducible rfl
                              rotate_left
                              · simp only [Act.put, List.setIfInBounds_toArray, List.set_cons_zero, List.set_cons_succ, i64_w, i32_w]
                                rfl
                              refine pure_ (i := 32) (N := some 91) (v := ?_) (a' := ?_) #[true, true, true, true, true, true, true, true, true, true, true, true, true, true, true, true, true, true, true, true, true, true, true, true, true, true, true, true, true, true, true, true, true, false, false, false, false, false, false, false, false, false, false, false, false, false, false, false] rfl rfl (any_of HT_.out (by kernel_rfl)) (fun _ _ _ h => h) (Or.inl ⟨by rfl, ?_⟩) ?_ ?_
                              rotate_left
                              · intro w'
                                go_simp
                                with_reducible rfl
                              rotate_left
                              · simp only [Act.put, List.setIfInBounds_toArray, List.set_cons_zero, List.set_cons_succ, i64_w, i32_w]
                                rfl
                              refine one_ (i := 33) (N := some 92) #[true, true, true, true, true, true, true, true, true, true, true, true, true, true, true, true, true, true, true, true, true, true, true, true, true, true, true, true, true, true, true, true, true, true, false, false, false, false, false, false, false, false, false, false, false, false, false, false] rfl rfl (one_of HT_.out (by kernel_rfl)) (by decide) (fun K hK => ?_)
                              refine goes_ Tryd.func11 (by kernel_rfl) rfl #[.slice Ao56 t306.length co56, .slice A0 l0.length c0] (by rfl) rfl rfl (by (try simp only [List.map_toArray, List.map_cons, List.map_nil]); first | done | rfl | (simp only [List.length_drop, List.length_take]; rfl)) ?_
                              with_reducible refine (switchyardlaw19_Same.calls kj4 _ _ t306 _ _ l0 true _ ?side1 ?side2 ?side3 ?side4 A36.out).mono ?_
                              (case side1 => repeat (first | exact (Kd.N_reads' HO309.out).2.2 | (with_reducible refine Kd.C_alloc ?_ _) | (with_reducible refine Kd.C_drewN ?_ _) | (with_reducible refine Kd.C_drew ?_)))
                              (case side2 => exact (Kd.N_reads' HO309.out).2.1)
                              (case side3 => repeat (first | exact (Kd.C_below HR0.out HB.out) | (with_reducible refine Kd.C_alloc ?_ _) | (with_reducible refine Kd.C_drewN ?_ _) | (with_reducible refine Kd.C_drew ?_)))
                              (case side4 => exact HC0.out)
                              rintro e w57 ⟨rfl, hb⟩
                              have HS12_ := (hb.cell (World.block_lt_of_cell? _ _ (hHeld.2.2.2.2.2.2.2.2.2.2.2.2.1))).trans (hHeld.2.2.2.2.2.2.2.2.2.2.2.2.1)
                              have HS13_ := (hb.cell (World.block_lt_of_cell? _ _ (hHeld.2.2.2.2.2.2.2.2.2.2.2.2.2.1))).trans (hHeld.2.2.2.2.2.2.2.2.2.2.2.2.2.1)
                              have HS14_ := (hb.cell (World.block_lt_of_cell? _ _ (hHeld.2.2.2.2.2.2.2.2.2.2.2.2.2.2.1))).trans (hHeld.2.2.2.2.2.2.2.2.2.2.2.2.2.2.1)
                              have HS15_ := (hb.cell (World.block_lt_of_cell? _ _ (hHeld.2.2.2.2.2.2.2.2.2.2.2.2.2.2.2.1))).trans (hHeld.2.2.2.2.2.2.2.2.2.2.2.2.2.2.2.1)
                              have HS16_ := (hb.cell (World.block_lt_of_cell? _ _ (hHeld.2.2.2.2.2.2.2.2.2.2.2.2.2.2.2.2.1))).trans (hHeld.2.2.2.2.2.2.2.2.2.2.2.2.2.2.2.2.1)
                              have HS17_ := (hb.cell (World.block_lt_of_cell? _ _ (hHeld.2.2.2.2.2.2.2.2.2.2.2.2.2.2.2.2.2))).trans (hHeld.2.2.2.2.2.2.2.2.2.2.2.2.2.2.2.2.2)
                              refine ⟨_, rfl, ?_⟩
                              have n0_ := Aside0.mk (Kd.V_below (by (with_reducible repeat (first | apply Kd.V_alloc | apply Kd.V_drewN | apply Kd.V_drew)); exact HO_282003.out) hb)
                              have n1_ := Aside0.mk (Kd.V_below (by (with_reducible repeat (first | apply Kd.V_alloc | apply Kd.V_drewN | apply Kd.V_drew)); exact HO_282004.out) hb)
                              have n2_ := Aside0.mk (Kd.N_below (by (with_reducible repeat (first | apply Kd.N_alloc | apply Kd.N_drewN | apply Kd.N_drew)); exact HO291.out) hb)
                              have n3_ := Aside0.mk (Kd.N_below (by (with_reducible repeat (first | apply Kd.N_alloc | apply Kd.N_drewN | apply Kd.N_drew)); exact HO299.out) hb)
                              have n4_ := Aside0.mk (Kd.N_below (by (with_reducible repeat (first | apply Kd.N_alloc | apply Kd.N_drewN | apply Kd.N_drew)); exact HO302.out) hb)
                              have n5_ := Aside0.mk (Kd.N_below (by (with_reducible repeat (first | apply Kd.N_alloc | apply Kd.N_drewN | apply Kd.N_drew)); exact HO309.out) hb)
                              have n6_ := Aside0.mk (Kd.V_below (by (with_reducible repeat (first | apply Kd.V_alloc | apply Kd.V_drewN | apply Kd.V_drew)); exact HL312_3.out) hb)
                              have n7_ := Aside0.mk (Kd.V_below (by (with_reducible repeat (first | apply Kd.V_alloc | apply Kd.V_drewN | apply Kd.V_drew)); exact HL312_4.out) hb)
                              have n8_ := Aside0.mk (blk_below (g := gb281) (o := .cells #[.int .i64 a1_0, .int .i64 a1_1, .string a1_2, .slice A1_3 l1_3.length c1_3, .slice A1_4 l1_4.length c1_4, .int .i64 a1_5] 27 (0, 0)) (by (with_reducible repeat (first | refine blk_drewN ?_ _ | refine blk_drew ?_ | refine blk_alloc ?_ _)); exact BK281.out) hb)
                              have n9_ := Aside0.mk (blk_below (g := gb305) (o := .cells #[.int .i64 t294, .int .i64 t295, .string t296, .slice Ao48 t297.length co48, .slice Ao49 t300.length co49, .int .i64 t303] 27 (0, 0)) (by (with_reducible repeat (first | refine blk_drewN ?_ _ | refine blk_drew ?_ | refine blk_alloc ?_ _)); exact BK305.out) hb)
                              have n10_ := Aside0.mk (Kd.C_below (by repeat (first | (with_reducible exact HR312_3.out) | (with_reducible refine Kd.C_alloc ?_ _) | (with_reducible refine Kd.C_drewN ?_ _) | (with_reducible refine Kd.C_drew ?_) | exact HR312_3.out)) hb)
                              have n11_ := Aside0.mk (Kd.C_below (by repeat (first | (with_reducible exact HR312_4.out) | (with_reducible refine Kd.C_alloc ?_ _) | (with_reducible refine Kd.C_drewN ?_ _) | (with_reducible refine Kd.C_drew ?_) | exact HR312_4.out)) hb)
                              have n12_ := Aside0.mk (below_step (by repeat (first | (with_reducible first | exact HB.out | apply below_alloc | apply pw_below_drewN | apply below_drew1 | refine below_set ?_ GE281.out | refine below_set ?_ GE305.out) | exact HB.out)) hb)
                              clear HO_282003
                              clear HO_282004
                              clear HO291
                              clear HO299
                              clear HO302
                              clear HO309
                              clear HL312_3
                              clear HL312_4
                              clear BK281
                              clear BK305
                              clear HR312_3
                              clear HR312_4
                              clear HB
                              have HO_282003 := n0_
                              have HO_282004 := n1_
                              have HO291 := n2_
                              have HO299 := n3_
                              have HO302 := n4_
                              have HO309 := n5_
                              have HL312_3 := n6_
                              have HL312_4 := n7_
                              have BK281 := n8_
                              have BK305 := n9_
                              have HR312_3 := n10_
                              have HR312_4 := n11_
                              have HB := n12_
                              clear n0_ n1_ n2_ n3_ n4_ n5_ n6_ n7_ n8_ n9_ n10_ n11_ n12_
                              (try clear hb)
                              (try clear hb2)
                              (try clear hk)
                              (try clear hi)
                              refine hK.out _ _ ⟨(blk_cell BK281.out 0).trans rfl, (blk_cell BK281.out 1).trans rfl, (blk_cell BK281.out 2).trans rfl, (blk_cell BK281.out 3).trans rfl, (blk_cell BK281.out 4).trans rfl, (blk_cell BK281.out 5).trans rfl, (blk_cell BK305.out 0).trans rfl, (blk_cell BK305.out 1).trans rfl, (blk_cell BK305.out 2).trans rfl, (blk_cell BK305.out 3).trans rfl, (blk_cell BK305.out 4).trans rfl, (blk_cell BK305.out 5).trans rfl, HS12_, HS13_, HS14_, HS15_, HS16_, HS17_⟩ (fun hHeld => ?_)
                              clear hK K
                              refine norm_ (a' := ?_) ?_ ?_
                              rotate_left
                              · show Act.put _ (some 92) _ = _
                                simp only [Act.put, List.setIfInBounds_toArray, List.set_cons_zero, List.set_cons_succ, i64_w, i32_w]
                                rfl
                              refine pure_ (i := 34) (N := some 93) (v := ?_) (a' := ?_) #[true, true, true, true, true, true, true, true, true, true, true, true, true, true, true, true, true, true, true, true, true, true, true, true, true, true, true, true, true, true, true, true, true, true, true, false, false, false, false, false, false, false, false, false, false, false, false, false] rfl rfl (any_of HT_.out (by kernel_rfl)) (fun _ _ _ h => h) (Or.inl ⟨by rfl, ?_⟩) ?_ ?_
                              rotate_left
                              · intro w'
                                go_simp
                                with_reducible rfl
                              rotate_left
                              · simp only [Act.put, List.setIfInBounds_toArray, List.set_cons_zero, List.set_cons_succ, i64_w, i32_w]
                                rfl
                              refine pure_ (i := 35) (N := some 94) (v := ?_) (a' := ?_) #[true, true, true, true, true, true, true, true, true, true, true, true, true, true, true, true, true, true, true, true, true, true, true, true, true, true, true, true, true, true, true, true, true, true, true, true, false, false, false, false, false, false, false, false, false, false, false, false] rfl rfl (any_of HT_.out (by kernel_rfl)) (fun _ _ _ h => h) (Or.inl ⟨by rfl, ?_⟩) ?_ ?_
                              rotate_left
                              · intro w'
                                go_simp
                                with_reducible rfl
                              rotate_left
                              · simp only [Act.put, List.setIfInBounds_toArray, List.set_cons_zero, List.set_cons_succ, i64_w, i32_w]
                                rfl
                              refine pure_ (i := 36) (N := some 95) (v := ?_) (a' := ?_) #[true, true, true, true, true, true, true, true, true, true, true, true, true, true, true, true, true, true, true, true, true, true, true, true, true, true, true, true, true, true, true, true, true, true, true, true, true, false, false, false, false, false, false, false, false, false, false, false] rfl rfl (any_of HT_.out (by kernel_rfl)) (fun _ _ _ h => h) (Or.inl ⟨by rfl, ?_⟩) ?_ ?_
                              rotate_left
                              · intro w'
                                go_simp
                                with_reducible rfl
                              rotate_left
                              · simp only [Act.put, List.setIfInBounds_toArray, List.set_cons_zero, List.set_cons_succ, i64_w, i32_w]
                                rfl
                              refine pure_ (i := 37) (N := some 96) (v := ?_) (a' := ?_) #[true, true, true, true, true, true, true, true, true, true, true, true, true, true, true, true, true, true, true, true, true, true, true, true, true, true, true, true, true, true, true, true, true, true, true, true, true, true, false, false, false, false, false, false, false, false, false, false] rfl rfl (any_of HT_.out (by kernel_rfl)) (fun _ _ _ h => h) (Or.inl ⟨by rfl, ?_⟩) ?_ ?_
                              rotate_left
                              · intro w'
                                go_simp
                                with_reducible rfl
                              rotate_left
                              · simp only [Act.put, List.setIfInBounds_toArray, List.set_cons_zero, List.set_cons_succ, i64_w, i32_w]
                                rfl
                              refine pure_ (i := 40) (N := some 99) (v := ?_) (a' := ?_) #[true, true, true, true, true, true, true, true, true, true, true, true, true, true, true, true, true, true, true, true, true, true, true, true, true, true, true, true, true, true, true, true, true, true, true, true, true, true, false, false, true, false, false, false, false, false, false, false] rfl rfl (any_of HT_.out (by kernel_rfl)) (fun _ _ _ h => h) (Or.inl ⟨by rfl, ?_⟩) ?_ ?_
                              rotate_left
                              · intro w'
                                go_simp
                                with_reducible rfl
                              rotate_left
                              · simp only [Act.put, List.setIfInBounds_toArray, List.set_cons_zero, List.set_cons_succ, i64_w, i32_w]
                                rfl
                              refine pure_ (i := 41) (N := some 100) (v := ?_) (a' := ?_) #[true, true, true, true, true, true, true, true, true, true, true, true, true, true, true, true, true, true, true, true, true, true, true, true, true, true, true, true, true, true, true, true, true, true, true, true, true, true, false, false, true, true, false, false, false, false, false, false] rfl rfl (any_of HT_.out (by kernel_rfl)) (fun _ _ _ h => h) (Or.inl ⟨by rfl, ?_⟩) ?_ ?_
                              rotate_left
                              · intro w'
                                go_simp
                                with_reducible rfl
                              rotate_left
                              · simp only [Act.put, List.setIfInBounds_toArray, List.set_cons_zero, List.set_cons_succ, i64_w, i32_w]
                                rfl
                              refine take_ (i := 38) (N := some 97) (v := ?_) (a' := ?_) #[true, true, true, true, true, true, true, true, true, true, true, true, true, true, true, true, true, true, true, true, true, true, true, true, true, true, true, true, true, true, true, true, true, true, true, true, true, true, true, false, true, true, false, false, false, false, false, false] rfl rfl (take_ofW HT_.out HW_.out (by kernel_rfl)) (fun _ _ _ h => h) (Or.inl ⟨by rfl, ?_⟩) hHeld ?_ ?_
                              rotate_left
                              · rintro w' ⟨s0, s1, s2, s3, s4, s5, s6, s7, s8, s9, s10, s11, s12, s13, s14, s15, s16, s17⟩
                                go_simp
                                with_reducible rfl
                              rotate_left
                              · simp only [Act.put, List.setIfInBounds_toArray, List.set_cons_zero, List.set_cons_succ, i64_w, i32_w]
                                rfl
                              refine take_ (i := 42) (N := some 101) (v := ?_) (a' := ?_) #[true, true, true, true, true, true, true, true, true, true, true, true, true, true, true, true, true, true, true, true, true, true, true, true, true, true, true, true, true, true, true, true, true, true, true, true, true, true, true, false, true, true, true, false, false, false, false, false] rfl rfl (take_ofW HT_.out HW_.out (by kernel_rfl)) (fun _ _ _ h => h) (Or.inl ⟨by rfl, ?_⟩) hHeld ?_ ?_
                              rotate_left
                              · rintro w' ⟨s0, s1, s2, s3, s4, s5, s6, s7, s8, s9, s10, s11, s12, s13, s14, s15, s16, s17⟩
                                go_simp
                                with_reducible rfl
                              rotate_left
                              · simp only [Act.put, List.setIfInBounds_toArray, List.set_cons_zero, List.set_cons_succ, i64_w, i32_w]
                                rfl
                              refine one_ (i := 39) (N := some 98) #[true, true, true, true, true, true, true, true, true, true, true, true, true, true, true, true, true, true, true, true, true, true, true, true, true, true, true, true, true, true, true, true, true, true, true, true, true, true, true, true, true, true, true, false, false, false, false, false] rfl rfl (one_of HT_.out (by kernel_rfl)) (by decide) (fun K hK => ?_)
                              refine goes_ Tryd.func13 (by kernel_rfl) rfl #[.slice (some ad312) t289.length co43, .int .i64 a1_5] (by rfl) rfl rfl (by (try simp only [List.map_toArray, List.map_cons, List.map_nil]); first | done | rfl | (simp only [List.length_drop, List.length_take]; rfl)) ?_
                              with_reducible refine (dead_Count.calls kj4 _ _ t289 a1_5 t315 _ ?side1 ?side2 A38.out).mono ?_
                              (case side1 => repeat (first | exact (Kd.N_reads' HO291.out).2.2 | (with_reducible refine Kd.C_alloc ?_ _) | (with_reducible refine Kd.C_drewN ?_ _) | (with_reducible refine Kd.C_drew ?_)))
                              (case side2 => exact (Kd.N_reads' HO291.out).2.1)
                              rintro e w58 ⟨rfl, hb⟩
                              have HS12_ := (hb.cell (World.block_lt_of_cell? _ _ (hHeld.2.2.2.2.2.2.2.2.2.2.2.2.1))).trans (hHeld.2.2.2.2.2.2.2.2.2.2.2.2.1)
                              have HS13_ := (hb.cell (World.block_lt_of_cell? _ _ (hHeld.2.2.2.2.2.2.2.2.2.2.2.2.2.1))).trans (hHeld.2.2.2.2.2.2.2.2.2.2.2.2.2.1)
                              have HS14_ := (hb.cell (World.block_lt_of_cell? _ _ (hHeld.2.2.2.2.2.2.2.2.2.2.2.2.2.2.1))).trans (hHeld.2.2.2.2.2.2.2.2.2.2.2.2.2.2.1)
                              have HS15_ := (hb.cell (World.block_lt_of_cell? _ _ (hHeld.2.2.2.2.2.2.2.2.2.2.2.2.2.2.2.1))).trans (hHeld.2.2.2.2.2.2.2.2.2.2.2.2.2.2.2.1)
                              have HS16_ := (hb.cell (World.block_lt_of_cell? _ _ (hHeld.2.2.2.2.2.2.2.2.2.2.2.2.2.2.2.2.1))).trans (hHeld.2.2.2.2.2.2.2.2.2.2.2.2.2.2.2.2.1)
                              have HS17_ := (hb.cell (World.block_lt_of_cell? _ _ (hHeld.2.2.2.2.2.2.2.2.2.2.2.2.2.2.2.2.2))).trans (hHeld.2.2.2.2.2.2.2.2.2.2.2.2.2.2.2.2.2)
                              refine ⟨_, rfl, ?_⟩
                              have n0_ := Aside0.mk (Kd.V_below (by (with_reducible repeat (first | apply Kd.V_alloc | apply Kd.V_drewN | apply Kd.V_drew)); exact HO_282003.out) hb)
                              have n1_ := Aside0.mk (Kd.V_below (by (with_reducible repeat (first | apply Kd.V_alloc | apply Kd.V_drewN | apply Kd.V_drew)); exact HO_282004.out) hb)
                              have n2_ := Aside0.mk (Kd.N_below (by (with_reducible repeat (first | apply Kd.N_alloc | apply Kd.N_drewN | apply Kd.N_drew)); exact HO291.out) hb)
                              have n3_ := Aside0.mk (Kd.N_below (by (with_reducible repeat (first | apply Kd.N_alloc | apply Kd.N_drewN | apply Kd.N_drew)); exact HO299.out) hb)
                              have n4_ := Aside0.mk (Kd.N_below (by (with_reducible repeat (first | apply Kd.N_alloc | apply Kd.N_drewN | apply Kd.N_drew)); exact HO302.out) hb)
                              have n5_ := Aside0.mk (Kd.N_below (by (with_reducible repeat (first | apply Kd.N_alloc | apply Kd.N_drewN | apply Kd.N_drew)); exact HO309.out) hb)
                              have n6_ := Aside0.mk (Kd.V_below (by (with_reducible repeat (first | apply Kd.V_alloc | apply Kd.V_drewN | apply Kd.V_drew)); exact HL312_3.out) hb)
                              have n7_ := Aside0.mk (Kd.V_below (by (with_reducible repeat (first | apply Kd.V_alloc | apply Kd.V_drewN | apply Kd.V_drew)); exact HL312_4.out) hb)
                              have n8_ := Aside0.mk (blk_below (g := gb281) (o := .cells #[.int .i64 a1_0, .int .i64 a1_1, .string a1_2, .slice A1_3 l1_3.length c1_3, .slice A1_4 l1_4.length c1_4, .int .i64 a1_5] 27 (0, 0)) (by (with_reducible repeat (first | refine blk_drewN ?_ _ | refine blk_drew ?_ | refine blk_alloc ?_ _)); exact BK281.out) hb)
                              have n9_ := Aside0.mk (blk_below (g := gb305) (o := .cells #[.int .i64 t294, .int .i64 t295, .string t296, .slice Ao48 t297.length co48, .slice Ao49 t300.length co49, .int .i64 t303] 27 (0, 0)) (by (with_reducible repeat (first | refine blk_drewN ?_ _ | refine blk_drew ?_ | refine blk_alloc ?_ _)); exact BK305.out) hb)
                              have n10_ := Aside0.mk (Kd.C_below (by repeat (first | (with_reducible exact HR312_3.out) | (with_reducible refine Kd.C_alloc ?_ _) | (with_reducible refine Kd.C_drewN ?_ _) | (with_reducible refine Kd.C_drew ?_) | exact HR312_3.out)) hb)
                              have n11_ := Aside0.mk (Kd.C_below (by repeat (first | (with_reducible exact HR312_4.out) | (with_reducible refine Kd.C_alloc ?_ _) | (with_reducible refine Kd.C_drewN ?_ _) | (with_reducible refine Kd.C_drew ?_) | exact HR312_4.out)) hb)
                              have n12_ := Aside0.mk (below_step (by repeat (first | (with_reducible first | exact HB.out | apply below_alloc | apply pw_below_drewN | apply below_drew1 | refine below_set ?_ GE281.out | refine below_set ?_ GE305.out) | exact HB.out)) hb)
                              clear HO_282003
                              clear HO_282004
                              clear HO291
                              clear HO299
                              clear HO302
                              clear HO309
                              clear HL312_3
                              clear HL312_4
                              clear BK281
                              clear BK305
                              clear HR312_3
                              clear HR312_4
                              clear HB
                              have HO_282003 := n0_
                              have HO_282004 := n1_
                              have HO291 := n2_
                              have HO299 := n3_
                              have HO302 := n4_
                              have HO309 := n5_
                              have HL312_3 := n6_
                              have HL312_4 := n7_
                              have BK281 := n8_
                              have BK305 := n9_
                              have HR312_3 := n10_
                              have HR312_4 := n11_
                              have HB := n12_
                              clear n0_ n1_ n2_ n3_ n4_ n5_ n6_ n7_ n8_ n9_ n10_ n11_ n12_
                              (try clear hb)
                              (try clear hb2)
                              (try clear hk)
                              (try clear hi)
                              refine hK.out _ _ ⟨(blk_cell BK281.out 0).trans rfl, (blk_cell BK281.out 1).trans rfl, (blk_cell BK281.out 2).trans rfl, (blk_cell BK281.out 3).trans rfl, (blk_cell BK281.out 4).trans rfl, (blk_cell BK281.out 5).trans rfl, (blk_cell BK305.out 0).trans rfl, (blk_cell BK305.out 1).trans rfl, (blk_cell BK305.out 2).trans rfl, (blk_cell BK305.out 3).trans rfl, (blk_cell BK305.out 4).trans rfl, (blk_cell BK305.out 5).trans rfl, HS12_, HS13_, HS14_, HS15_, HS16_, HS17_⟩ (fun hHeld => ?_)
                              clear hK K
                              refine norm_ (a' := ?_) ?_ ?_
                              rotate_left
                              · show Act.put _ (some 98) _ = _
                                simp only [Act.put, List.setIfInBounds_toArray, List.set_cons_zero, List.set_cons_succ, i64_w, i32_w]
                                rfl
                              refine one_ (i := 43) (N := some 102) #[true, true, true, true, true, true, true, true, true, true, true, true, true, true, true, true, true, true, true, true, true, true, true, true, true, true, true, true, true, true, true, true, true, true, true, true, true, true, true, true, true, true, true, true, false, false, false, false] rfl rfl (one_of HT_.out (by kernel_rfl)) (by decide) (fun K hK => ?_)
                              refine goes_ Tryd.func13 (by kernel_rfl) rfl #[.slice A0 l0.length c0, .int .i64 a1_5] (by rfl) rfl rfl (by (try simp only [List.map_toArray, List.map_cons, List.map_nil]); first | done | rfl | (simp only [List.length_drop, List.length_take]; rfl)) ?_
                              with_reducible refine (dead_Count.calls kj4 _ _ l0 a1_5 t316 _ ?side1 ?side2 A39.out).mono ?_
                              (case side1 => repeat (first | exact (Kd.C_below HR0.out HB.out) | (with_reducible refine Kd.C_alloc ?_ _) | (with_reducible refine Kd.C_drewN ?_ _) | (with_reducible refine Kd.C_drew ?_)))
                              (case side2 => exact HC0.out)
                              rintro e w59 ⟨rfl, hb⟩
                              have HS12_ := (hb.cell (World.block_lt_of_cell? _ _ (hHeld.2.2.2.2.2.2.2.2.2.2.2.2.1))).trans (hHeld.2.2.2.2.2.2.2.2.2.2.2.2.1)
                              have HS13_ := (hb.cell (World.block_lt_of_cell? _ _ (hHeld.2.2.2.2.2.2.2.2.2.2.2.2.2.1))).trans (hHeld.2.2.2.2.2.2.2.2.2.2.2.2.2.1)
                              have HS14_ := (hb.cell (World.block_lt_of_cell? _ _ (hHeld.2.2.2.2.2.2.2.2.2.2.2.2.2.2.1))).trans (hHeld.2.2.2.2.2.2.2.2.2.2.2.2.2.2.1)
                              have HS15_ := (hb.cell (World.block_lt_of_cell? _ _ (hHeld.2.2.2.2.2.2.2.2.2.2.2.2.2.2.2.1))).trans (hHeld.2.2.2.2.2.2.2.2.2.2.2.2.2.2.2.1)
                              have HS16_ := (hb.cell (World.block_lt_of_cell? _ _ (hHeld.2.2.2.2.2.2.2.2.2.2.2.2.2.2.2.2.1))).trans (hHeld.2.2.2.2.2.2.2.2.2.2.2.2.2.2.2.2.1)
                              have HS17_ := (hb.cell (World.block_lt_of_cell? _ _ (hHeld.2.2.2.2.2.2.2.2.2.2.2.2.2.2.2.2.2))).trans (hHeld.2.2.2.2.2.2.2.2.2.2.2.2.2.2.2.2.2)
                              refine ⟨_, rfl, ?_⟩
                              have n0_ := Aside0.mk (Kd.V_below (by (with_reducible repeat (first | apply Kd.V_alloc | apply Kd.V_drewN | apply Kd.V_drew)); exact HO_282003.out) hb)
                              have n1_ := Aside0.mk (Kd.V_below (by (with_reducible repeat (first | apply Kd.V_alloc | apply Kd.V_drewN | apply Kd.V_drew)); exact HO_282004.out) hb)
                              have n2_ := Aside0.mk (Kd.N_below (by (with_reducible repeat (first | apply Kd.N_alloc | apply Kd.N_drewN | apply Kd.N_drew)); exact HO291.out) hb)
                              have n3_ := Aside0.mk (Kd.N_below (by (with_reducible repeat (first | apply Kd.N_alloc | apply Kd.N_drewN | apply Kd.N_drew)); exact HO299.out) hb)
                              have n4_ := Aside0.mk (Kd.N_below (by (with_reducible repeat (first | apply Kd.N_alloc | apply Kd.N_drewN | apply Kd.N_drew)); exact HO302.out) hb)
                              have n5_ := Aside0.mk (Kd.N_below (by (with_reducible repeat (first | apply Kd.N_alloc | apply Kd.N_drewN | apply Kd.N_drew)); exact HO309.out) hb)
                              have n6_ := Aside0.mk (Kd.V_below (by (with_reducible repeat (first | apply Kd.V_alloc | apply Kd.V_drewN | apply Kd.V_drew)); exact HL312_3.out) hb)
                              have n7_ := Aside0.mk (Kd.V_below (by (with_reducible repeat (first | apply Kd.V_alloc | apply Kd.V_drewN | apply Kd.V_drew)); exact HL312_4.out) hb)
                              have n8_ := Aside0.mk (blk_below (g := gb281) (o := .cells #[.int .i64 a1_0, .int .i64 a1_1, .string a1_2, .slice A1_3 l1_3.length c1_3, .slice A1_4 l1_4.length c1_4, .int .i64 a1_5] 27 (0, 0)) (by (with_reducible repeat (first | refine blk_drewN ?_ _ | refine blk_drew ?_ | refine blk_alloc ?_ _)); exact BK281.out) hb)
                              have n9_ := Aside0.mk (blk_below (g := gb305) (o := .cells #[.int .i64 t294, .int .i64 t295, .string t296, .slice Ao48 t297.length co48, .slice Ao49 t300.length co49, .int .i64 t303] 27 (0, 0)) (by (with_reducible repeat (first | refine blk_drewN ?_ _ | refine blk_drew ?_ | refine blk_alloc ?_ _)); exact BK305.out) hb)
                              have n10_ := Aside0.mk (Kd.C_below (by repeat (first | (with_reducible exact HR312_3.out) | (with_reducible refine Kd.C_alloc ?_ _) | (with_reducible refine Kd.C_drewN ?_ _) | (with_reducible refine Kd.C_drew ?_) | exact HR312_3.out)) hb)
                              have n11_ := Aside0.mk (Kd.C_below (by repeat (first | (with_reducible exact HR312_4.out) | (with_reducible refine Kd.C_alloc ?_ _) | (with_reducible refine Kd.C_drewN ?_ _) | (with_reducible refine Kd.C_drew ?_) | exact HR312_4.out)) hb)
                              have n12_ := Aside0.mk (below_step (by repeat (first | (with_reducible first | exact HB.out | apply below_alloc | apply pw_below_drewN | apply below_drew1 | refine below_set ?_ GE281.out | refine below_set ?_ GE305.out) | exact HB.out)) hb)
                              clear HO_282003
                              clear HO_282004
                              clear HO291
                              clear HO299
                              clear HO302
                              clear HO309
                              clear HL312_3
                              clear HL312_4
                              clear BK281
                              clear BK305
                              clear HR312_3
                              clear HR312_4
                              clear HB
                              have HO_282003 := n0_
                              have HO_282004 := n1_
                              have HO291 := n2_
                              have HO299 := n3_
                              have HO302 := n4_
                              have HO309 := n5_
                              have HL312_3 := n6_
                              have HL312_4 := n7_
                              have BK281 := n8_
                              have BK305 := n9_
                              have HR312_3 := n10_
                              have HR312_4 := n11_
                              have HB := n12_
                              clear n0_ n1_ n2_ n3_ n4_ n5_ n6_ n7_ n8_ n9_ n10_ n11_ n12_
                              (try clear hb)
                              (try clear hb2)
                              (try clear hk)
                              (try clear hi)
                              refine hK.out _ _ ⟨(blk_cell BK281.out 0).trans rfl, (blk_cell BK281.out 1).trans rfl, (blk_cell BK281.out 2).trans rfl, (blk_cell BK281.out 3).trans rfl, (blk_cell BK281.out 4).trans rfl, (blk_cell BK281.out 5).trans rfl, (blk_cell BK305.out 0).trans rfl, (blk_cell BK305.out 1).trans rfl, (blk_cell BK305.out 2).trans rfl, (blk_cell BK305.out 3).trans rfl, (blk_cell BK305.out 4).trans rfl, (blk_cell BK305.out 5).trans rfl, HS12_, HS13_, HS14_, HS15_, HS16_, HS17_⟩ (fun hHeld => ?_)
                              clear hK K
                              refine norm_ (a' := ?_) ?_ ?_
                              rotate_left
                              · show Act.put _ (some 102) _ = _
                                simp only [Act.put, List.setIfInBounds_toArray, List.set_cons_zero, List.set_cons_succ, i64_w, i32_w]
                                rfl
                              refine pure_ (i := 44) (N := some 103) (v := ?_) (a' := ?_) #[true, true, true, true, true, true, true, true, true, true, true, true, true, true, true, true, true, true, true, true, true, true, true, true, true, true, true, true, true, true, true, true, true, true, true, true, true, true, true, true, true, true, true, true, true, false, false, false] rfl rfl (any_of HT_.out (by kernel_rfl)) (fun _ _ _ h => h) (Or.inl ⟨by rfl, ?_⟩) ?_ ?_
                              rotate_left
                              · intro w'
                                go_simp
                                with_reducible rfl
                              rotate_left
                              · simp only [Act.put, List.setIfInBounds_toArray, List.set_cons_zero, List.set_cons_succ, i64_w, i32_w]
                                rfl
                              refine pure_ (i := 45) (N := some 104) (v := ?_) (a' := ?_) #[true, true, true, true, true, true, true, true, true, true, true, true, true, true, true, true, true, true, true, true, true, true, true, true, true, true, true, true, true, true, true, true, true, true, true, true, true, true, true, true, true, true, true, true, true, true, false, false] rfl rfl (any_of HT_.out (by kernel_rfl)) (fun _ _ _ h => h) (Or.inl ⟨by rfl, ?_⟩) ?_ ?_
                              rotate_left
                              · intro w'
                                go_simp
                                with_reducible rfl
                              rotate_left
                              · simp only [Act.put, List.setIfInBounds_toArray, List.set_cons_zero, List.set_cons_succ, i64_w, i32_w]
                                rfl
                              refine pure_ (i := 46) (N := some 105) (v := ?_) (a' := ?_) #[true, true, true, true, true, true, true, true, true, true, true, true, true, true, true, true, true, true, true, true, true, true, true, true, true, true, true, true, true, true, true, true, true, true, true, true, true, true, true, true, true, true, true, true, true, true, true, false] rfl rfl (any_of HT_.out (by kernel_rfl)) (fun _ _ _ h => h) (Or.inl ⟨by rfl, ?_⟩) ?_ ?_
                              rotate_left
                              · intro w'
                                go_simp
                                with_reducible rfl
                              rotate_left
                              · simp only [Act.put, List.setIfInBounds_toArray, List.set_cons_zero, List.set_cons_succ, i64_w, i32_w]
                                rfl
                              refine pure_ (i := 47) (N := some 4) (v := ?_) (a' := ?_) #[true, true, true, true, true, true, true, true, true, true, true, true, true, true, true, true, true, true, true, true, true, true, true, true, true, true, true, true, true, true, true, true, true, true, true, true, true, true, true, true, true, true, true, true, true, true, true, true] rfl rfl (any_of HT_.out (by kernel_rfl)) (fun _ _ _ h => h) (Or.inl ⟨by rfl, ?_⟩) ?_ ?_
                              rotate_left
                              · intro w'
                                go_simp
                                with_reducible rfl
                              rotate_left
                              · simp only [Act.put, List.setIfInBounds_toArray, List.set_cons_zero, List.set_cons_succ, i64_w, i32_w]
                                rfl
                              refine done_ (done_of HT_.out (by kernel_rfl)) ?_
                              try go_wp2
                              go_ret
                              exact ⟨by first | rfl | (simp [errW_none, errW_some] <;> rfl) | (simp [*, errW_none, errW_some] <;> rfl), by repeat (first | (with_reducible first | exact HB.out | apply below_alloc | apply pw_below_drewN | apply below_drew1 | refine below_set ?_ GE281.out | refine below_set ?_ GE305.out) | exact HB.out)⟩
                            · replace c37 := Bool.eq_false_iff.mpr c37
                              subst c37
                              have H1 : (none) = some r := by rw [if_neg (show ¬ (false = true) by decide)] at H; exact H
                              clear H
                              have H := H1
                              clear H1
                              exact absurd H (by simp)
                          · rw [if_neg c35] at H
                            have c35b0 : (t307 == 0) = false := beq_eq_false_iff_ne.mpr c35
                            have c35b1 : (t307 != 0) = true := bne_iff_ne.mpr c35
                            exact absurd H (by simp)
                        · replace c34 := Bool.eq_false_iff.mpr c34
                          subst c34
                          have H1 : (none) = some r := by rw [if_neg (show ¬ (false = true) by decide)] at H; exact H
                          clear H
                          have H := H1
                          clear H1
                          exact absurd H (by simp)
                      · rw [if_neg c32] at H
                        exact absurd H (by simp)
                    · rw [if_neg c31] at H
                      exact absurd H (by simp)
                  · rw [if_neg c30] at H
                    have c30b0 : ((t289.length : Int) == (wrap64 ((l0.length : Int) + 1))) = false := beq_eq_false_iff_ne.mpr c30
                    have c30b1 : ((t289.length : Int) != (wrap64 ((l0.length : Int) + 1))) = true := bne_iff_ne.mpr c30
                    exact absurd H (by simp)
                · replace c29 := Bool.eq_false_iff.mpr c29
                  subst c29
                  have H1 : (none) = some r := by rw [if_neg (show ¬ (false = true) by decide)] at H; exact H
                  clear H
                  have H := H1
                  clear H1
                  exact absurd H (by simp)
              · replace c27 := Bool.eq_false_iff.mpr c27
                subst c27
                have H1 : (none) = some r := by rw [if_neg (show ¬ (false = true) by decide)] at H; exact H
                clear H
                have H := H1
                clear H1
                exact absurd H (by simp)
            · replace c26 := Bool.eq_false_iff.mpr c26
              subst c26
              have H1 : (none) = some r := by rw [if_neg (show ¬ (false = true) by decide)] at H; exact H
              clear H
              have H := H1
              clear H1
              exact absurd H (by simp)
          · rw [if_neg c22] at H
            have c22b0 : (t292 == 0) = false := beq_eq_false_iff_ne.mpr c22
            have c22b1 : (t292 != 0) = true := bne_iff_ne.mpr c22
            replace H := Option.bind_eq_some_iff.mp H
            obtain ⟨t293, A600, H⟩ := H
            replace H : (if t293 = true then (some ((t289.length : Int) == 0)) else (none)) = some r := H
            have A60 := Aside0.mk A600
            clear A600
            by_cases c61 : t293 = true
            · subst c61
              have H1 : (some ((t289.length : Int) == 0)) = some r := by rw [if_pos rfl] at H; exact H
              clear H
              have H := H1
              clear H1
              obtain rfl := Option.some.inj H
              have hcz62_0 : wc.cell? ⟨gb281, 0, none⟩ = some (.int .i64 a1_0) := (blk_cell BK281.out 0).trans rfl
              have hcz62_1 : wc.cell? ⟨gb281, 1, none⟩ = some (.int .i64 a1_1) := (blk_cell BK281.out 1).trans rfl
              have hcz62_2 : wc.cell? ⟨gb281, 2, none⟩ = some (.string a1_2) := (blk_cell BK281.out 2).trans rfl
              have hcz62_3 : wc.cell? ⟨gb281, 3, none⟩ = some (.slice A1_3 l1_3.length c1_3) := (blk_cell BK281.out 3).trans rfl
              have hcz62_4 : wc.cell? ⟨gb281, 4, none⟩ = some (.slice A1_4 l1_4.length c1_4) := (blk_cell BK281.out 4).trans rfl
              have hcz62_5 : wc.cell? ⟨gb281, 5, none⟩ = some (.int .i64 a1_5) := (blk_cell BK281.out 5).trans rfl
              have hfz62_0 := blk_frozen BK281.out 0
              have hfz62_1 := blk_frozen BK281.out 1
              have hfz62_2 := blk_frozen BK281.out 2
              have hfz62_3 := blk_frozen BK281.out 3
              have hfz62_4 := blk_frozen BK281.out 4
              have hfz62_5 := blk_frozen BK281.out 5
              go_wp2_with (first | ((with_reducible refine gate_callee (f := 9) rfl ?_); refine goesL_ (some 34) rfl rfl Tryd.func9 (by kernel_rfl) rfl #[.slice A0 l0.length c0, .int .i64 a1_0, .agg #[.int .i64 a1_1, .string a1_2, .slice A1_3 l1_3.length c1_3, .slice A1_4 l1_4.length c1_4], .int .i64 a1_5, .int .i64 (wrap64 ((l0.length : Int) + 1))] rfl (by (try simp only [List.map_toArray, List.map_cons, List.map_nil]); first | done | rfl | (simp only [List.length_drop, List.length_take]; rfl)) ?_; (with_reducible refine (dead_Put.calls kj4 _ _ l0 a1_0 a1_1 a1_2 _ _ l1_3 _ _ l1_4 a1_5 (wrap64 ((l0.length : Int) + 1)) t289 t292 _ ?side1 ?side2 ?side3 ?side4 ?side5 ?side6 A21.out (Tabs.below HT.out (by repeat (first | (with_reducible first | exact HB.out | apply below_alloc | apply pw_below_drewN | apply below_drew1 | refine below_set ?_ GE281.out) | exact HB.out)))).mono ?_); (case side1 => repeat (first | exact (Kd.C_below HR0.out HB.out) | (with_reducible refine Kd.C_alloc ?_ _) | (with_reducible refine Kd.C_drewN ?_ _) | (with_reducible refine Kd.C_drew ?_))); (case side2 => exact HC0.out); (case side3 => repeat (first | exact (Kd.V_reads' HO_282003.out).2.2 | (with_reducible refine Kd.C_alloc ?_ _) | (with_reducible refine Kd.C_drewN ?_ _) | (with_reducible refine Kd.C_drew ?_))); (case side4 => exact (Kd.V_reads' HO_282003.out).2.1); (case side5 => repeat (first | exact (Kd.V_reads' HO_282004.out).2.2 | (with_reducible refine Kd.C_alloc ?_ _) | (with_reducible refine Kd.C_drewN ?_ _) | (with_reducible refine Kd.C_drew ?_))); (case side6 => exact (Kd.V_reads' HO_282004.out).2.1); rintro e w63 ⟨v290, rfl, ho0, hb⟩; refine ⟨_, rfl, ?_⟩; have n0_ := Aside0.mk (Kd.V_elder' (by (with_reducible repeat (first | apply Kd.V_alloc | apply Kd.V_drewN | apply Kd.V_drew)); exact HO_282003.out) (Kd.N_base (Kd.R_N ho0)) hb); have n1_ := Aside0.mk (Kd.V_elder' (by (with_reducible repeat (first | apply Kd.V_alloc | apply Kd.V_drewN | apply Kd.V_drew)); exact HO_282004.out) (Kd.N_base (Kd.R_N ho0)) hb); have n2_ := Aside0.mk (Kd.N_lower (Kd.N_mono (ok' := fun k_ => ((P1_3_ k_ ∨ P1_4_ k_) ∨ w.heap.size ≤ k_) ∧ k_ ≠ gb281) (Kd.R_N (Kd.R_bound ho0)) (fun k_ hk_ => ⟨(.inr (Nat.le_trans (below_size (by repeat (first | (with_reducible first | exact HB.out | apply below_alloc | apply pw_below_drewN | apply below_drew1 | refine below_set ?_ GE281.out) | exact HB.out))) hk_.2.1)), (Kd.freshB (g := gb281) (o := .cells #[.int .i64 a1_0, .int .i64 a1_1, .string a1_2, .slice A1_3 l1_3.length c1_3, .slice A1_4 l1_4.length c1_4, .int .i64 a1_5] 27 (0, 0)) (by (with_reducible repeat (first | refine blk_drewN ?_ _ | refine blk_drew ?_ | refine blk_alloc ?_ _)); exact BK281.out) k_ hk_.2.1)⟩)) (below_size (by repeat (first | (with_reducible first | exact HB.out | apply below_alloc | apply pw_below_drewN | apply below_drew1 | refine below_set ?_ GE281.out) | exact HB.out)))); have n3_ := Aside0.mk (blk_below (g := gb281) (o := .cells #[.int .i64 a1_0, .int .i64 a1_1, .string a1_2, .slice A1_3 l1_3.length c1_3, .slice A1_4 l1_4.length c1_4, .int .i64 a1_5] 27 (0, 0)) (by (with_reducible repeat (first | refine blk_drewN ?_ _ | refine blk_drew ?_ | refine blk_alloc ?_ _)); exact BK281.out) hb); have n4_ := Aside0.mk (below_step (by repeat (first | (with_reducible first | exact HB.out | apply below_alloc | apply pw_below_drewN | apply below_drew1 | refine below_set ?_ GE281.out) | exact HB.out)) hb); clear HO_282003; clear HO_282004; clear BK281; clear HB; have HO_282003 := n0_; have HO_282004 := n1_; have HO291 := n2_; have BK281 := n3_; have HB := n4_; clear n0_ n1_ n2_ n3_ n4_; (try clear hb); (try clear hb2); (try clear hk); (try clear hi); (try clear ho0)) | ((with_reducible refine gate_callee (f := 7) rfl ?_); refine goesL_ (some 39) rfl rfl Tryd.func7 (by kernel_rfl) rfl #[] rfl (by (try simp only [List.map_toArray, List.map_cons, List.map_nil]); first | done | rfl | (simp only [List.length_drop, List.length_take]; rfl)) ?_; (with_reducible refine (switchyardlaw19_awake.calls kj4  true _ A60.out (Tabs.below HT.out (by repeat (first | (with_reducible first | exact HB.out | apply below_alloc | apply pw_below_drewN | apply below_drew1 | refine below_set ?_ GE281.out) | exact HB.out)))).mono ?_); rintro e w64 ⟨rfl, hb⟩; refine ⟨_, rfl, ?_⟩; have n0_ := Aside0.mk (Kd.V_below (by (with_reducible repeat (first | apply Kd.V_alloc | apply Kd.V_drewN | apply Kd.V_drew)); exact HO_282003.out) hb); have n1_ := Aside0.mk (Kd.V_below (by (with_reducible repeat (first | apply Kd.V_alloc | apply Kd.V_drewN | apply Kd.V_drew)); exact HO_282004.out) hb); have n2_ := Aside0.mk (Kd.N_below (by (with_reducible repeat (first | apply Kd.N_alloc | apply Kd.N_drewN | apply Kd.N_drew)); exact HO291.out) hb); have n3_ := Aside0.mk (blk_below (g := gb281) (o := .cells #[.int .i64 a1_0, .int .i64 a1_1, .string a1_2, .slice A1_3 l1_3.length c1_3, .slice A1_4 l1_4.length c1_4, .int .i64 a1_5] 27 (0, 0)) (by (with_reducible repeat (first | refine blk_drewN ?_ _ | refine blk_drew ?_ | refine blk_alloc ?_ _)); exact BK281.out) hb); have n4_ := Aside0.mk (below_step (by repeat (first | (with_reducible first | exact HB.out | apply below_alloc | apply pw_below_drewN | apply below_drew1 | refine below_set ?_ GE281.out) | exact HB.out)) hb); clear HO_282003; clear HO_282004; clear HO291; clear BK281; clear HB; have HO_282003 := n0_; have HO_282004 := n1_; have HO291 := n2_; have BK281 := n3_; have HB := n4_; clear n0_ n1_ n2_ n3_ n4_; (try clear hb); (try clear hb2); (try clear hk); (try clear hi); obtain ⟨Ao65, co65, eo65⟩ := Kd.N_slice HO291.out; subst eo65))
              go_ret
              exact ⟨by first | rfl | (simp [errW_none, errW_some] <;> rfl) | (simp [*, errW_none, errW_some] <;> rfl), by repeat (first | (with_reducible first | exact HB.out | apply below_alloc | apply pw_below_drewN | apply below_drew1 | refine below_set ?_ GE281.out) | exact HB.out)⟩
            · replace c61 := Bool.eq_false_iff.mpr c61
              subst c61
              have H1 : (none) = some r := by rw [if_neg (show ¬ (false = true) by decide)] at H; exact H
              clear H
              have H := H1
              clear H1
              exact absurd H (by simp)
  · replace c4 := Bool.eq_false_iff.mpr c4
    subst c4
    have H1 : (none) = some r := by rw [if_neg (show ¬ (false = true) by decide)] at H; exact H
    clear H
    have H := H1
    clear H1
    exact absurd H (by simp)
end Go.Proofs.YtknbebjphjpgpaaDoor.XD
namespace Go.Proofs.YtknbebjphjpgpaaDoor.XD
open Go.RowKit Go.Proofs.YtknbebjphjpgpaaDoorW.PrintWords Go.Proofs.YtknbebjphjpgpaaDoorW.PrintLast Go.Proofs.YtknbebjphjpgpaaDoorW.PrintMore
set_option linter.unusedVariables false
set_option linter.unusedSimpArgs false
theorem has_snoc (l : List S27) (x : S27) : has (l ++ [x]) x.f0 = true := by
  unfold has; simp
theorem find_snoc (l : List S27) (x : S27) (h : ¬ has l x.f0 = true) : findP (l ++ [x]) x.f0 = (x.f0, x.f1.f0, x.f1.f1, x.f1.f2, x.f1.f3, x.f2, true) := by
  have hn : l.find? (fun y => y.f0 == x.f0) = none := by
    rw [List.find?_eq_none]
    intro y hy hh
    exact h (List.any_eq_true.2 ⟨y, hy, hh⟩)
  unfold findP
  rw [List.find?_append, hn]
  simp
theorem drop_snoc (l : List S27) (x : S27) (h : ¬ has l x.f0 = true) : dropP (l ++ [x]) x.f0 = (l, 0) := by
  unfold dropP
  rw [if_pos (has_snoc l x), List.filter_append, List.filter_cons_of_neg (by simp), List.filter_nil, List.append_nil]
  rw [List.filter_eq_self.2]
  intro y hy
  simp only [Bool.not_eq_true', Bool.eq_false_iff]
  intro hh
  exact h (List.any_eq_true.2 ⟨y, hy, hh⟩)
theorem back_j (l : List S27) (x : S27) (b : Bool) (hb : b = false → (OkA l ∧ l.length ≤ 100) ∧ OkL x) : Ev (fun k => switchyardlaw19_DeadBack.j0 k l b x.f0 x.f1.f0 x.f1.f1 x.f1.f2 x.f1.f3 x.f2) true := by
  refine Ev.step (fun k => by simp only [switchyardlaw19_DeadBack.j0]; rfl) ?_
  by_cases h : b = true
  · exact Ev.pos h (Ev.bind awake_ev (Ev.now _))
  · obtain ⟨⟨h1, h2⟩, h3⟩ := hb (by simpa using h)
    have hw : wrap64 ((l.length : Int) + 1) = ((l.length + 1 : Nat) : Int) := wr_cnt (by omega)
    refine Ev.neg h (Ev.bind (put_ev l x _ h1 h3) ?_)
    rw [hw]
    by_cases hg : putP l x ((l.length + 1 : Nat) : Int) = (l ++ [x], 0)
    · have hn : ¬ has l x.f0 = true := by
        intro hh
        unfold putP at hg
        split at hg
        · simp at hg
        · simp at hg
      have h4 := okA_snoc h1 h2 h3
      rw [hg]
      refine Ev.pos rfl (Ev.bind (find_ev (l ++ [x]) _ h4) (Ev.bind (drop_ev (l ++ [x]) _ h4) (Ev.bind awake_ev (Ev.pos rfl ?_))))
      rw [find_snoc l x hn, drop_snoc l x hn]
      refine Ev.pos rfl (Ev.bind (sdead_ev x x h3) (Ev.pos (by simp) (Ev.pos (by simp) (Ev.pos (by omega) (Ev.pos (by simp; omega) ?_)))))
      have hr : rd_T27 (l ++ [x]) (l.length : Int) = x := by
        rw [rd27_at (by simp)]; simp
      rw [hr]
      refine Ev.bind (sdead_ev x x h3) (Ev.pos (by simp) (Ev.pos rfl (Ev.bind (same19_ev l l h1) (Ev.pos (by simp) (Ev.bind (count_ev (l ++ [x]) _ (by simp; omega)) (Ev.bind (count_ev l _ (by omega)) (Ev.val ?_)))))))
      have hc : cntP l x.f2 ≤ 100 := Nat.le_trans (List.length_filter_le _ _) h2
      rw [wr_cnt (by omega)]
      have e : cntP (l ++ [x]) x.f2 = cntP l x.f2 + 1 := by
        unfold cntP; rw [List.filter_append, List.length_append]; simp
      rw [e]; simp
    · have hz : (putP l x ((l.length + 1 : Nat) : Int)).1 = [] ∧ (putP l x ((l.length + 1 : Nat) : Int)).2 ≠ 0 := by
        unfold putP at hg ⊢
        split
        · exact ⟨rfl, by decide⟩
        · split
          · exact ⟨rfl, by decide⟩
          · split
            · exact ⟨rfl, by decide⟩
            · rename_i a1 a2 a3
              rw [if_neg a1, if_neg a2, if_neg a3] at hg
              exact absurd rfl hg
      refine Ev.neg hz.2 (Ev.bind awake_ev (Ev.pos rfl (Ev.val ?_)))
      rw [hz.1]; rfl
theorem back_ev (l : List S27) (x : S27) (hl : l.length ≤ 4611686018427387904) (h1 : smallB l = true → OkA l ∧ l.length ≤ 100) (h2 : smallB [x] = true → OkL x) : Ev (fun k => switchyardlaw19_DeadBack.f k l x.f0 x.f1.f0 x.f1.f1 x.f1.f2 x.f1.f3 x.f2) true := by
  unfold switchyardlaw19_DeadBack.f
  refine Ev.bind awake_ev (Ev.pos rfl (Ev.bind (small_ev l hl) ?_))
  by_cases hs : smallB l = true
  · refine Ev.pos hs (Ev.bind (small_ev [x] (by simp)) (back_j l x _ (fun hb => ⟨h1 hs, h2 (by simpa using hb)⟩)))
  · exact Ev.neg hs (back_j l x true (fun hb => by cases hb))
set_option maxHeartbeats 1000000 in
theorem back_walk (A0 : Option Addr) (c0 : Nat) (l0 : (List S27)) (a1_0 : Int) (a1_1 : Int) (a1_2 : ByteArray) (A1_3 : Option Addr) (c1_3 : Nat) (l1_3 : (List S37)) (A1_4 : Option Addr) (c1_4 : Nat) (l1_4 : (List S37)) (a1_5 : Int) (W : World) (hC0 : Kd.C k27 W A0 l0.length l0) (hc0 : l0.length ≤ c0) (hG0 : (l0.length * Tryd.prog.bytesOf 27 ≤ 140737488351232 ∧ l0.length ≤ maxLen ∧ ∀ y ∈ l0, G27 y)) (hG1_0 : (Lit.int .i64 a1_0).wf = true) (hG1_1 : (Lit.int .i64 a1_1).wf = true) (hG1_2 : a1_2.size ≤ 140737488351232) (hC1_3 : Kd.C k37 W A1_3 l1_3.length l1_3) (hc1_3 : l1_3.length ≤ c1_3) (hG1_3 : (l1_3.length * Tryd.prog.bytesOf 37 ≤ 140737488351232 ∧ l1_3.length ≤ maxLen ∧ ∀ y ∈ l1_3, G37 y)) (hC1_4 : Kd.C k37 W A1_4 l1_4.length l1_4) (hc1_4 : l1_4.length ≤ c1_4) (hG1_4 : (l1_4.length * Tryd.prog.bytesOf 37 ≤ 140737488351232 ∧ l1_4.length ≤ maxLen ∧ ∀ y ∈ l1_4, G37 y)) (hG1_5 : (Lit.int .i64 a1_5).wf = true) (hT : Tabs W) :
    Calls Tryd.prog 6 #[.slice A0 l0.length c0, .agg #[.int .i64 a1_0, .int .i64 a1_1, .string a1_2, .slice A1_3 l1_3.length c1_3, .slice A1_4 l1_4.length c1_4, .int .i64 a1_5]] W fun e w' => e = .returned (.bool true) ∧ Below W.heap.size W w' := by
  obtain ⟨k, hk⟩ := Ev.rounds (back_ev l0 ⟨a1_0, ⟨a1_1, a1_2, l1_3, l1_4⟩, a1_5⟩ (len27 hG0.1) (okA_of hG0.2.2) (okX_of hG1_3.2.2 hG1_4.2.2))
  exact switchyardlaw19_DeadBack.calls k A0 c0 l0 a1_0 a1_1 a1_2 _ A1_3 c1_3 l1_3 _ A1_4 c1_4 l1_4 a1_5 true W hC0 hc0 (came 37 heap37 hC1_3 hc1_3) (came 37 heap37 hC1_4 hc1_4) hk hT
end Go.Proofs.YtknbebjphjpgpaaDoor.XD
namespace Go.Proofs.YtknbebjphjpgpaaDoor.XD
open Go.RowKit Go.Proofs.YtknbebjphjpgpaaDoorW.PrintWords Go.Proofs.YtknbebjphjpgpaaDoor.Open
theorem strs_of_reads {P : Program} {W : World} {l : List (String × DataW Unit)} {name : String} (zs : List (List UInt8)) {g : Nat} {t e : TypeId} {n : Nat} (hp : (l.all fun x => x.2.handleName?.isNone) = true) (h : laidMetH P l W) (hm : (name, .agg (zs.map fun z => .lit (.string z))) ∈ l)
    (hg : P.globalNamed name = some g) (hty : (P.globals[g]?).map (·.type) = some t) (ht : P.underlying t = some (.array n e)) (he : P.underlying e = some .string) (hce : P.cellsOf e = 1) (hct : P.cellsOf t = n) : W.var? P name = some (zs.map fun z => Value.string ⟨z.toArray⟩).toArray := by
  rw [MakeChecks.laidMetH_plain _ _ _ hp] at h
  obtain ⟨g', t', cs, fuel, p, hg', ht', hvar, hd⟩ := Lib.laidMet.reads h hm
  obtain rfl := Option.some.inj (hg.symm.trans hg')
  obtain rfl := Option.some.inj (hty.symm.trans ht')
  rw [hvar, ← cells_of_strs ht he hce hct hd]
end Go.Proofs.YtknbebjphjpgpaaDoor.XD
namespace Go.Proofs.YtknbebjphjpgpaaDoor.deadBack
open Go.ChangeShapes Go.WideShapes Go.ChangeAt Go.RowKit
open Go.ChangeMaps (open_string shut_string)
open Go.Proofs.YtknbebjphjpgpaaDoorW.PrintWords Go.Proofs.YtknbebjphjpgpaaDoor.Open Go.Proofs.YtknbebjphjpgpaaDoor.XD
set_option linter.unusedVariables false
theorem door_met (os : Os) (args : Array Value) : laidMetH Tryd.prog Rows.deadBackRow.laid ((World.doorLaid Tryd.prog 24 os).forCall (fun _ _ => 0) ⟨#[], args, []⟩).memory :=
  laidMetH_of_parts3 (fuel := 8) (laidMet_of_run' 8 (by kernel_rfl) (by kernel_rfl)) (by kernel_rfl) (by kernel_rfl)
theorem tabs_of {W : World} (h : laidMetH Tryd.prog Rows.deadBackRow.laid W) : Tabs W :=
  strs_of_reads wordL (by kernel_rfl) h (by exact .head _) (g := 0) (by kernel_rfl) (by kernel_rfl) (n := 6) Tryd.underlying52 Tryd.underlying9 (by kernel_rfl) (by kernel_rfl)
theorem own : ownKnob Tryd.prog.godebug = none := by kernel_rfl
theorem laidOut : laidOutB Tryd.prog = true := by kernel_rfl
set_option maxRecDepth 100000 in
theorem lifted (os : Os) (started : os.Started) (H : Type) (enc : TypeId × Value → H) :
    ReturnsInHanded {} Tryd.checked os 6 .any (fun w args => (Rows.deadBackSpec.pre enc Tryd.prog Tryd.f6 [] false w args ∧ laidMetH Tryd.prog Rows.deadBackRow.laid w) ∧ sizedMet enc Tryd.prog Tryd.f6 (OpenSpec.ofChange Rows.deadBackSpec) false w args) (Rows.deadBackSpec.post enc Tryd.prog Tryd.f6 false true false false) := by
  refine returnsInHanded_of_change_and (C := Tryd.checked) (X := fun w _ => laidMetH Tryd.prog Rows.deadBackRow.laid w) (fun _ _ _ hh h => h.of_heap hh) own started (by kernel_rfl) Tryd.func6
    (ChangeSpec.witness_shaped (enc := enc) (C := Tryd.checked) (os := os) (X := fun w _ => laidMetH Tryd.prog Rows.deadBackRow.laid w) false (World.doorLaid Tryd.prog 24 os) #[.slice none 0 0, .agg #[.int .i64 0, .int .i64 0, .string ByteArray.empty, .slice none 0 0, .slice none 0 0, .int .i64 0]] 8 rfl (World.shaped_of_RefB (by kernel_rfl) (by kernel_rfl)) (by kernel_rfl) (by kernel_rfl) (by kernel_rfl) (door_met os _)) ?_
  intro W base args ds gs before hval0 hW hcnd hsz0 hL _
  have hsz : (DataW.weightsEach Tryd.prog (Tryd.f6.params.toList ++ Rows.deadBackSpec.plain.varTypes Tryd.prog) (ds ++ gs)).all (· ≤ reachBytes) = true := hsz0
  have hval : ∀ (j : Nat) t v, Tryd.f6.params[j]? = some t → args[j]? = some v → Value.okWide Tryd.prog W .any base t v := hval0
  have hW' := hW
  obtain ⟨p, q, hA0, hV, rfl, hfz, hnd⟩ := hW
  have hA : DataW.TrodAll enc Tryd.prog W 0 (fun _ => true) true Tryd.f6.params.toList args.toList ds p := hA0
  rw [Tryd.params6] at hA hval hsz
  obtain ⟨v0, vs0, d0, ds0, p0, q0, hargs, rfl, rfl, h0, r0⟩ := trodAll_cons hA
  obtain ⟨v1, vs1, d1, ds1, p1, q1, rfl, rfl, rfl, h1, r1⟩ := trodAll_cons r0
  obtain ⟨rfl, rfl, rfl⟩ := trodAll_nil r1
  obtain rfl : args = #[v0, v1] := by cases args; simp_all
  obtain ⟨rfl, rfl⟩ := trodVars_none hV
  have k0 := h0
  have lt0 : ∀ x ∈ p0, x.block < W.heap.size := by obtain ⟨m, hm⟩ := k0; exact DataW.trod_lt m _ _ _ hm
  have wt0 := Open.arg_weights hsz (j := 0) (t := 22) (d := d0) rfl rfl
  obtain ⟨l0, hK0, hG0⟩ := Opens.arg (k := (Kd.slice 27 k27)) (fun _ => (opens_slice' Tryd.underlying22 (by kernel_rfl) (fun _ _ => (opens_k27 _)))) h0 wt0
  obtain ⟨b0, len0, cap0, rfl⟩ := okWide_slice Tryd.underlying22 (hval 0 22 v0 rfl rfl)
  obtain ⟨A0, c0, he0, hc0, hC0⟩ := hK0
  simp only [Value.cells] at he0
  injection he0 with he0 _
  injection he0 with e10 e20 e30
  subst e10 e20 e30
  have k1 := h1
  have lt1 : ∀ x ∈ p1, x.block < W.heap.size := by obtain ⟨m, hm⟩ := k1; exact DataW.trod_lt m _ _ _ hm
  have wt1 := Open.arg_weights hsz (j := 1) (t := 27) (d := d1) rfl rfl
  obtain ⟨x1, hK1, hG1⟩ := Opens.arg (k := (Kd.pair (Kd.int .i64) (Kd.pair (Kd.pair (Kd.int .i64) (Kd.pair Kd.string (Kd.pair (Kd.slice 37 k37) (Kd.slice 37 k37)))) (Kd.int .i64)))) (fun _ => (opens_struct' id id (fun _ => rfl) Tryd.underlying27 (by kernel_rfl) (fun _ _ => (OpensF.cons rfl (by kernel_rfl) (opens_int Tryd.underlying2) (OpensF.cons rfl (by kernel_rfl) (opens_struct' id id (fun _ => rfl) Tryd.underlying25 (by kernel_rfl) (fun _ _ => (OpensF.cons rfl (by kernel_rfl) (opens_int Tryd.underlying2) (OpensF.cons rfl (by kernel_rfl) (opens_string Tryd.underlying9) (OpensF.cons rfl (by kernel_rfl) (opens_slice' Tryd.underlying23 (by kernel_rfl) (fun _ _ => (opens_k37 _))) (OpensF.last rfl (by kernel_rfl) (opens_slice' Tryd.underlying23 (by kernel_rfl) (fun _ _ => (opens_k37 _))))))))) (OpensF.last rfl (by kernel_rfl) (opens_int Tryd.underlying3))))))) h1 wt1
  obtain ⟨cs1, rfl, hs1⟩ := okWide_struct Tryd.underlying27 (hval 1 27 v1 rfl rfl)
  obtain ⟨a1_0, ⟨a1_1, a1_2, l1_3, l1_4⟩, a1_5⟩ := x1
  simp only [Value.cells] at hK1
  generalize hcs1 : cs1.toList = ct1 at hK1
  obtain ⟨_, _, rfl, rfl, ⟨_, _, rfl, ⟨_, _, rfl, rfl, ⟨_, _, rfl, rfl, ⟨_, _, rfl, ⟨A1_3, c1_3, rfl, hc1_3, hC1_3⟩, ⟨A1_4, c1_4, rfl, hc1_4, hC1_4⟩⟩⟩⟩, rfl⟩⟩ := hK1
  obtain rfl : cs1 = #[.int .i64 a1_0, .int .i64 a1_1, .string a1_2, .slice A1_3 l1_3.length c1_3, .slice A1_4 l1_4.length c1_4, .int .i64 a1_5] := by cases cs1; simpa using hcs1
  clear hA0 hval0 hsz0 hsz
  have hT := tabs_of hL
  refine (back_walk b0 cap0 l0 a1_0 a1_1 a1_2 A1_3 c1_3 l1_3 A1_4 c1_4 l1_4 a1_5 W hC0 hc0 hG0 hG1.1 hG1.2.1.1 hG1.2.1.2.1 hC1_3 hc1_3 hG1.2.1.2.2.1 hC1_4 hc1_4 hG1.2.1.2.2.2 hG1.2.2 hT).mono fun e W' ⟨he, bel⟩ => ?_
  subst he
  exact ⟨_, rfl, _, _, _, [], _, [], hW', trodAll_mk1 (shut_bool Tryd.underlying4 _), (trodAll_cons_mk (Below.trod laidOut (by kernel_rfl) (of_decide_eq_true (by kernel_rfl)) k0 bel lt0) (trodAll_cons_mk (Below.trod laidOut (by kernel_rfl) (of_decide_eq_true (by kernel_rfl)) k1 bel lt1) trodAll_mk0)), rfl, bel.frame _, fun h => by cases h⟩
theorem over : Rows.deadBackRow.holds Tryd.pinned (OpenSpec.ofChange Rows.deadBackSpec) :=
  OpenClaim.holds_of_wide 6 Tryd.f6 rfl rfl rfl rfl rfl rfl rfl ⟨rfl, rfl, rfl, rfl, rfl⟩ rfl rfl rfl rfl rfl (by kernel_rfl) Tryd.func6 (by kernel_rfl)
    (of_decide_eq_true (by kernel_rfl)) (by unfold Func.isWrapper; first | (rw [if_pos (by decide +kernel)]; kernel_rfl) | (rw [if_neg (by decide +kernel)]; exact ⟨rfl, rfl⟩))
    (fun os started H enc _ => lifted os started H enc)
theorem proved : Rows.DeadBackSaid := over
theorem card_proved : Rows.DeadBackCardSaid :=
  Claim7.holds_tied_plain_at .later [] [.data] true (true, "082a175ab3fb4a6814a4ab67dadfecd13186a509aa05699093f69527edcefca9") false proved (fun _ h => by cases h) (by kernel_rfl) (fun _ h => by cases h) deadBack_row_tie rfl ⟨rfl, rfl⟩ (by kernel_rfl) rfl
    (fun f fn hf hfn => by
      obtain rfl : f = 6 := Option.some.inj ((show Tryd.prog.funcNamed "switchyard/switchyardlaw19.DeadBack" = some 6 by kernel_rfl).symm.trans hf) |>.symm
      obtain rfl : fn = Tryd.f6 := (Option.some.inj (Tryd.func6.symm.trans hfn)).symm
      exact ⟨by kernel_rfl, fun j t ht => by
        rw [Tryd.params6] at ht
        have hm : t ∈ [22, 27] := by simpa using Array.mem_of_getElem? ht
        have hall : ([22, 27].all fun u => !Tryd.prog.wantsStandIn u) = true := by kernel_rfl
        exact (show Tryd.prog.wantsStandIn t = false by simpa using List.all_eq_true.1 hall t hm)⟩)
    (by kernel_rfl)
end Go.Proofs.YtknbebjphjpgpaaDoor.deadBack
namespace Go.Proofs.YtknbebjphjpgpaaDoor
/-- The card, under a short name, for the claim. -/
theorem deadBack_holds : Rows.DeadBackCardSaid := deadBack.card_proved
end Go.Proofs.YtknbebjphjpgpaaDoor
