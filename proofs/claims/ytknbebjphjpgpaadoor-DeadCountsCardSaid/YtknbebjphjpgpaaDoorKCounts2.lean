/- switchyard/switchyardlaw19.DeadCounts: for every input the law answers true, and its arguments read as before; the listed library tables are tied to the program's text by the given tie. Conditions: none but the card's own. -/
import Derived.Test.YtknbebjphjpgpaaDoorKCounts1
import Derived.Test.YtknbebjphjpgpaaDoorRows
import Derived.Test.YtknbebjphjpgpaaDoorCards
import Derived.Test.YtknbebjphjpgpaaDoorTie
import Derived.WalkKit
import Derived.ProofKit
import Derived.OpenShut
import Derived.ShutString
import Derived.ChangeOld
import Derived.Below
import Derived.SizedLaws
import Derived.LaidMore
import Derived.Stop.Joined
import Derived.SevenTiedAt
namespace Go.Proofs.YtknbebjphjpgpaaDoor.XD
open Go.RowKit Go.Proofs.YtknbebjphjpgpaaDoorW.PrintWords Go.Proofs.YtknbebjphjpgpaaDoorW.PrintLast Go.Proofs.YtknbebjphjpgpaaDoorW.PrintMore
attribute [local go_sem] max2_int min2_int max_two min_two max_three min_three max_four min_four   -- for this text's walks alone
set_option linter.unusedVariables false
set_option linter.unusedSimpArgs false
mutual
def switchyardlaw19_DeadCounts.j0 : Nat → List (S27) → Bool → Int → Int → ByteArray → List (S37) → List (S37) → Int → Option (Bool)
  | 0, _, _, _, _, _, _, _, _ => none
  | k + 1, x0, x22, x318000, x318001, x318002, x318003, x318004, x318005 => if x22 = true then ((switchyardlaw19_awake.f k).bind fun t324 => (some t324)) else (switchyardlaw19_DeadCounts.l0 k x0 0 x0 (x0.length : Int) 0 x318000 x318001 x318002 x318003 x318004 x318005)
def switchyardlaw19_DeadCounts.l0 : Nat → List (S27) → Int → List (S27) → Int → Int → Int → Int → ByteArray → List (S37) → List (S37) → Int → Option (Bool)
  | 0, _, _, _, _, _, _, _, _, _, _, _ => none
  | k + 1, x0, x5, x24, x25, x26, x318000, x318001, x318002, x318003, x318004, x318005 => if x26 < x25 then (if 0 ≤ x26 then (if x26 < (x24.length : Int) then ((dead_Word.f ((rd_T27 x24 x26).f2)).bind fun t327 => (if t327.toList = ([] : List UInt8) then ((switchyardlaw19_awake.f k).bind fun t328 => (some t328)) else (switchyardlaw19_DeadCounts.l0 k x0 x5 x24 x25 (wrap64 (x26 + 1)) x318000 x318001 x318002 x318003 x318004 x318005))) else (none)) else (none)) else ((dead_Put.f k x0 x318000 x318001 x318002 x318003 x318004 x318005 1000).bind fun bt329 => (switchyardlaw19_DeadCounts.l1 k x0 x5 bt329.1 bt329.2 0 x318000 x318001 x318002 x318003 x318004 x318005))
def switchyardlaw19_DeadCounts.l1 : Nat → List (S27) → Int → List (S27) → Int → Int → Int → Int → ByteArray → List (S37) → List (S37) → Int → Option (Bool)
  | 0, _, _, _, _, _, _, _, _, _, _, _ => none
  | k + 1, x0, x5, x8, x9, x47, x318000, x318001, x318002, x318003, x318004, x318005 => if x47 < 7 then ((dead_Count.f k x0 x47).bind fun t334 => ((dead_Count.f k x8 x47).bind fun t335 => ((dead_Count.f k x0 x47).bind fun t336 => (if x9 = 0 then (if ((t335 == t336) != (x47 != x318005)) = true then (none) else (switchyardlaw19_DeadCounts.l1 k x0 (wrap64 (x5 + t334)) x8 x9 (wrap64 (x47 + 1)) x318000 x318001 x318002 x318003 x318004 x318005)) else (switchyardlaw19_DeadCounts.l1 k x0 (wrap64 (x5 + t334)) x8 x9 (wrap64 (x47 + 1)) x318000 x318001 x318002 x318003 x318004 x318005))))) else ((switchyardlaw19_awake.f k).bind fun t333 => (if t333 = true then (some (x5 == (x0.length : Int))) else (none)))
end
def switchyardlaw19_DeadCounts.f (k : Nat) (l0 : List (S27)) (a1_0 : Int) (a1_1 : Int) (a1_2 : ByteArray) (l1_3 : List (S37)) (l1_4 : List (S37)) (a1_5 : Int) : Option (Bool) := (switchyardlaw19_awake.f k).bind fun t318 => (if t318 = true then ((switchyardlaw19_small.f k l0).bind fun t319 => (if t319 = true then ((switchyardlaw19_small.f k (([(⟨a1_0, (⟨a1_1, a1_2, l1_3, l1_4⟩ : S25), a1_5⟩ : S27)] : List (S27)))).bind fun t323 => (switchyardlaw19_DeadCounts.j0 k l0 (!t323) a1_0 a1_1 a1_2 l1_3 l1_4 a1_5)) else (switchyardlaw19_DeadCounts.j0 k l0 true a1_0 a1_1 a1_2 l1_3 l1_4 a1_5))) else (none))
set_option maxHeartbeats 600000 in
set_option maxRecDepth 100000 in
theorem switchyardlaw19_DeadCounts.calls (k : Nat) (A0 : Option Addr) (c0 : Nat) (l0 : List (S27)) (a1_0 : Int) (a1_1 : Int) (a1_2 : ByteArray) (P1_3_ : Nat → Prop) (A1_3 : Option Addr) (c1_3 : Nat) (l1_3 : List (S37)) (P1_4_ : Nat → Prop) (A1_4 : Option Addr) (c1_4 : Nat) (l1_4 : List (S37)) (a1_5 : Int) (r : Bool) (w : World) (hr0 : Kd.C k27 w A0 l0.length l0) (hc0 : l0.length ≤ c0) (hs1_3 : Kd.V k37 37 w w.heap.size (fun k_ => P1_3_ k_) (.slice A1_3 l1_3.length c1_3) l1_3) (hs1_4 : Kd.V k37 37 w w.heap.size (fun k_ => P1_4_ k_) (.slice A1_4 l1_4.length c1_4) l1_4) (h : switchyardlaw19_DeadCounts.f k l0 a1_0 a1_1 a1_2 l1_3 l1_4 a1_5 = some r) (hT : Tabs w) :
    Calls Tryd.prog 4 #[.slice A0 l0.length c0, .agg #[.int .i64 a1_0, .int .i64 a1_1, .string a1_2, .slice A1_3 l1_3.length c1_3, .slice A1_4 l1_4.length c1_4, .int .i64 a1_5]] w fun e w' => e = .returned (.bool r) ∧ Below w.heap.size w w' := by
  have HT := Aside0.mk hT
  clear hT
  have hu27 := Tryd.underlying27
  have hu25 := Tryd.underlying25
  have HR0 := Aside0.mk hr0
  have HC0 := Aside0.mk hc0
  clear hr0 hc0
  have HO1_3 := Aside0.mk (show Kd.V k37 37 w w.heap.size (fun k_ => ((P1_3_ k_ ∨ P1_4_ k_) ∨ w.heap.size ≤ k_)) (.slice A1_3 l1_3.length c1_3) l1_3 from Kd.V_mono hs1_3 (fun k_ hk => .inl (.inl hk)))
  have HO1_4 := Aside0.mk (show Kd.V k37 37 w w.heap.size (fun k_ => ((P1_3_ k_ ∨ P1_4_ k_) ∨ w.heap.size ≤ k_)) (.slice A1_4 l1_4.length c1_4) l1_4 from Kd.V_mono hs1_4 (fun k_ hk => .inl (.inr hk)))
  have HB := Aside0.mk (Below.refl w.heap.size w)
  have H : ((switchyardlaw19_awake.f k).bind fun t318 => (if t318 = true then ((switchyardlaw19_small.f k l0).bind fun t319 => (if t319 = true then ((switchyardlaw19_small.f k (([(⟨a1_0, (⟨a1_1, a1_2, l1_3, l1_4⟩ : S25), a1_5⟩ : S27)] : List (S27)))).bind fun t323 => (switchyardlaw19_DeadCounts.j0 k l0 (!t323) a1_0 a1_1 a1_2 l1_3 l1_4 a1_5)) else (switchyardlaw19_DeadCounts.j0 k l0 true a1_0 a1_1 a1_2 l1_3 l1_4 a1_5))) else (none))) = some r := h
  clear h
  replace H := Option.bind_eq_some_iff.mp H
  obtain ⟨t318, A30, H⟩ := H
  replace H : (if t318 = true then ((switchyardlaw19_small.f k l0).bind fun t319 => (if t319 = true then ((switchyardlaw19_small.f k (([(⟨a1_0, (⟨a1_1, a1_2, l1_3, l1_4⟩ : S25), a1_5⟩ : S27)] : List (S27)))).bind fun t323 => (switchyardlaw19_DeadCounts.j0 k l0 (!t323) a1_0 a1_1 a1_2 l1_3 l1_4 a1_5)) else (switchyardlaw19_DeadCounts.j0 k l0 true a1_0 a1_1 a1_2 l1_3 l1_4 a1_5))) else (none)) = some r := H
  have A3 := Aside0.mk A30
  clear A30
  by_cases c4 : t318 = true
  · subst c4
    have H1 : ((switchyardlaw19_small.f k l0).bind fun t319 => (if t319 = true then ((switchyardlaw19_small.f k (([(⟨a1_0, (⟨a1_1, a1_2, l1_3, l1_4⟩ : S25), a1_5⟩ : S27)] : List (S27)))).bind fun t323 => (switchyardlaw19_DeadCounts.j0 k l0 (!t323) a1_0 a1_1 a1_2 l1_3 l1_4 a1_5)) else (switchyardlaw19_DeadCounts.j0 k l0 true a1_0 a1_1 a1_2 l1_3 l1_4 a1_5))) = some r := by rw [if_pos rfl] at H; exact H
    clear H
    have H := H1
    clear H1
    have HC5 := Aside0.mk H
    clear H
    go_enter Tryd.func4, Tryd.ntmps4
    go_upto_region 3 with (first | ((with_reducible refine gate_dst (N := 3) rfl ?_); (try (refine gate_guard (by rfl) ?_; dsimp only)); refine box_event ?hg (N := 3) ?hd (cs := #[.int .i64 a1_0, .int .i64 a1_1, .string a1_2, .slice A1_3 l1_3.length c1_3, .slice A1_4 l1_4.length c1_4, .int .i64 a1_5]) (t := 27) ?hr ?_; (case hd => rfl); (case hg => rfl); (case hr => first | (go_simp; done) | (go_simp; rfl)); intro gb317 hg w6 hbox hb; have n0_ := Aside0.mk (Kd.V_below (Kd.V_elderB (by (with_reducible repeat (first | apply Kd.V_alloc | apply Kd.V_drewN | apply Kd.V_drew)); exact HO1_3.out) gb317 (Nat.le_of_eq hg.symm)) hb); have n1_ := Aside0.mk (Kd.V_below (Kd.V_elderB (by (with_reducible repeat (first | apply Kd.V_alloc | apply Kd.V_drewN | apply Kd.V_drew)); exact HO1_4.out) gb317 (Nat.le_of_eq hg.symm)) hb); have n2_ := Aside0.mk (below_step (by repeat (first | (with_reducible first | exact HB.out | apply below_alloc | apply pw_below_drewN | apply below_drew1) | exact HB.out)) hb); have n3_ := Aside0.mk (hbox); have n4_ := Aside0.mk ((by rw [hg]; exact (below_size (by repeat (first | (with_reducible first | exact HB.out | apply below_alloc | apply pw_below_drewN | apply below_drew1) | exact HB.out))) : w.heap.size ≤ gb317)); have n5_ := Aside0.mk ((by rw [hg]; exact (below_size (by repeat (first | (with_reducible first | exact HB.out | apply below_alloc | apply pw_below_drewN | apply below_drew1) | exact HB.out))) : w.heap.size ≤ gb317)); clear HO1_3; clear HO1_4; clear HB; have HO1_3 := n0_; have HO1_4 := n1_; have HB := n2_; have BK317 := n3_; have GW317 := n4_; have GE317 := n5_; clear n0_ n1_ n2_ n3_ n4_ n5_; clear hb hbox hg) | ((with_reducible refine gate_callee (f := 7) rfl ?_); refine goesL_ (some 12) rfl rfl Tryd.func7 (by kernel_rfl) rfl #[] rfl (by (try simp only [List.map_toArray, List.map_cons, List.map_nil]); first | done | rfl | (simp only [List.length_drop, List.length_take]; rfl)) ?_; (with_reducible refine (switchyardlaw19_awake.calls k  true _ A3.out (Tabs.below HT.out (by repeat (first | (with_reducible first | exact HB.out | apply below_alloc | apply pw_below_drewN | apply below_drew1 | refine below_set ?_ GE317.out) | exact HB.out)))).mono ?_); rintro e w7 ⟨rfl, hb⟩; refine ⟨_, rfl, ?_⟩; have n0_ := Aside0.mk (Kd.V_below (by (with_reducible repeat (first | apply Kd.V_alloc | apply Kd.V_drewN | apply Kd.V_drew)); exact HO1_3.out) hb); have n1_ := Aside0.mk (Kd.V_below (by (with_reducible repeat (first | apply Kd.V_alloc | apply Kd.V_drewN | apply Kd.V_drew)); exact HO1_4.out) hb); have n2_ := Aside0.mk (blk_below (g := gb317) (o := .cells #[.int .i64 a1_0, .int .i64 a1_1, .string a1_2, .slice A1_3 l1_3.length c1_3, .slice A1_4 l1_4.length c1_4, .int .i64 a1_5] 27 (0, 0)) (by (with_reducible repeat (first | refine blk_drewN ?_ _ | refine blk_drew ?_ | refine blk_alloc ?_ _)); exact BK317.out) hb); have n3_ := Aside0.mk (below_step (by repeat (first | (with_reducible first | exact HB.out | apply below_alloc | apply pw_below_drewN | apply below_drew1 | refine below_set ?_ GE317.out) | exact HB.out)) hb); clear HO1_3; clear HO1_4; clear BK317; clear HB; have HO1_3 := n0_; have HO1_4 := n1_; have BK317 := n2_; have HB := n3_; clear n0_ n1_ n2_ n3_; (try clear hb); (try clear hb2); (try clear hk); (try clear hi)))
    (try simp only [Act.put, List.setIfInBounds_toArray, List.set_cons_zero, List.set_cons_succ])
    go_cut [22] (fun v22 wc => ∃ (kq : Nat) (x22_4 : Bool), v22 = .bool x22_4 ∧ Aside0 (switchyardlaw19_DeadCounts.j0 kq l0 x22_4 a1_0 a1_1 a1_2 l1_3 l1_4 a1_5 = some r) ∧ Aside0 (kq ≤ k) ∧ Aside0 (Kd.V k37 37 wc w.heap.size (fun k_ => ((P1_3_ k_ ∨ P1_4_ k_) ∨ w.heap.size ≤ k_) ∧ k_ ≠ gb317) (.slice A1_3 l1_3.length c1_3) l1_3) ∧ Aside0 (Kd.V k37 37 wc w.heap.size (fun k_ => ((P1_3_ k_ ∨ P1_4_ k_) ∨ w.heap.size ≤ k_) ∧ k_ ≠ gb317) (.slice A1_4 l1_4.length c1_4) l1_4) ∧ Aside0 (wc.heap[gb317]? = some (.cells #[.int .i64 a1_0, .int .i64 a1_1, .string a1_2, (.slice A1_3 l1_3.length c1_3), (.slice A1_4 l1_4.length c1_4), .int .i64 a1_5] 27 (0, 0))) ∧ Aside0 (Below w.heap.size w wc))
    case first =>
      have H := HC5.out
      clear HC5
      replace H := Option.bind_eq_some_iff.mp H
      obtain ⟨t319, A80, H⟩ := H
      replace H : (if t319 = true then ((switchyardlaw19_small.f k (([(⟨a1_0, (⟨a1_1, a1_2, l1_3, l1_4⟩ : S25), a1_5⟩ : S27)] : List (S27)))).bind fun t323 => (switchyardlaw19_DeadCounts.j0 k l0 (!t323) a1_0 a1_1 a1_2 l1_3 l1_4 a1_5)) else (switchyardlaw19_DeadCounts.j0 k l0 true a1_0 a1_1 a1_2 l1_3 l1_4 a1_5)) = some r := H
      have A8 := Aside0.mk A80
      clear A80
      by_cases c9 : t319 = true
      · subst c9
        have H1 : ((switchyardlaw19_small.f k (([(⟨a1_0, (⟨a1_1, a1_2, l1_3, l1_4⟩ : S25), a1_5⟩ : S27)] : List (S27)))).bind fun t323 => (switchyardlaw19_DeadCounts.j0 k l0 (!t323) a1_0 a1_1 a1_2 l1_3 l1_4 a1_5)) = some r := by rw [if_pos rfl] at H; exact H
        clear H
        have H := H1
        clear H1
        obtain ⟨y320, hy320⟩ : ∃ y_ : List (S27), y_ = (([(⟨a1_0, (⟨a1_1, a1_2, l1_3, l1_4⟩ : S25), a1_5⟩ : S27)] : List (S27))) := ⟨_, rfl⟩
        replace H : ((switchyardlaw19_small.f k y320).bind fun t323 => (switchyardlaw19_DeadCounts.j0 k l0 (!t323) a1_0 a1_1 a1_2 l1_3 l1_4 a1_5)) = some r := by first | (rw [hy320]; with_reducible exact H) | (have H2_ := (Option.bind_some _ _).symm.trans H; rw [hy320]; with_reducible exact H2_) | (have H2_ := (Option.bind_some _ _).symm.trans H; with_reducible exact H2_) | with_reducible exact H | (rw [hy320]; exact H) | exact H
        have Ny320 := Aside0.mk hy320
        clear hy320
        replace H := Option.bind_eq_some_iff.mp H
        obtain ⟨t323, A100, H⟩ := H
        replace H : (switchyardlaw19_DeadCounts.j0 k l0 (!t323) a1_0 a1_1 a1_2 l1_3 l1_4 a1_5) = some r := H
        have A10 := Aside0.mk A100
        clear A100
        have H' := Aside0.mk H
        clear H
        go_wp2_with (first | ((with_reducible refine gate_callee (f := 8) rfl ?_); refine goesL_ (some 15) rfl rfl Tryd.func8 (by kernel_rfl) rfl #[.slice A0 l0.length c0] rfl (by (try simp only [List.map_toArray, List.map_cons, List.map_nil]); first | done | rfl | (simp only [List.length_drop, List.length_take]; rfl)) ?_; (with_reducible refine (switchyardlaw19_small.calls k _ _ l0 true _ ?side1 ?side2 A8.out).mono ?_); (case side1 => repeat (first | exact (Kd.C_below HR0.out HB.out) | (with_reducible refine Kd.C_alloc ?_ _) | (with_reducible refine Kd.C_drewN ?_ _) | (with_reducible refine Kd.C_drew ?_))); (case side2 => exact HC0.out); rintro e w11 ⟨rfl, hb⟩; refine ⟨_, rfl, ?_⟩; have n0_ := Aside0.mk (Kd.V_below (by (with_reducible repeat (first | apply Kd.V_alloc | apply Kd.V_drewN | apply Kd.V_drew)); exact HO1_3.out) hb); have n1_ := Aside0.mk (Kd.V_below (by (with_reducible repeat (first | apply Kd.V_alloc | apply Kd.V_drewN | apply Kd.V_drew)); exact HO1_4.out) hb); have n2_ := Aside0.mk (blk_below (g := gb317) (o := .cells #[.int .i64 a1_0, .int .i64 a1_1, .string a1_2, .slice A1_3 l1_3.length c1_3, .slice A1_4 l1_4.length c1_4, .int .i64 a1_5] 27 (0, 0)) (by (with_reducible repeat (first | refine blk_drewN ?_ _ | refine blk_drew ?_ | refine blk_alloc ?_ _)); exact BK317.out) hb); have n3_ := Aside0.mk (below_step (by repeat (first | (with_reducible first | exact HB.out | apply below_alloc | apply pw_below_drewN | apply below_drew1 | refine below_set ?_ GE317.out) | exact HB.out)) hb); clear HO1_3; clear HO1_4; clear BK317; clear HB; have HO1_3 := n0_; have HO1_4 := n1_; have BK317 := n2_; have HB := n3_; clear n0_ n1_ n2_ n3_; (try clear hb); (try clear hb2); (try clear hk); (try clear hi); have hcz12_0 : w11.cell? ⟨gb317, 0, none⟩ = some (.int .i64 a1_0) := (blk_cell BK317.out 0).trans rfl; have hcz12_1 : w11.cell? ⟨gb317, 1, none⟩ = some (.int .i64 a1_1) := (blk_cell BK317.out 1).trans rfl; have hcz12_2 : w11.cell? ⟨gb317, 2, none⟩ = some (.string a1_2) := (blk_cell BK317.out 2).trans rfl; have hcz12_3 : w11.cell? ⟨gb317, 3, none⟩ = some (.slice A1_3 l1_3.length c1_3) := (blk_cell BK317.out 3).trans rfl; have hcz12_4 : w11.cell? ⟨gb317, 4, none⟩ = some (.slice A1_4 l1_4.length c1_4) := (blk_cell BK317.out 4).trans rfl; have hcz12_5 : w11.cell? ⟨gb317, 5, none⟩ = some (.int .i64 a1_5) := (blk_cell BK317.out 5).trans rfl; have hfz12_0 := blk_frozen BK317.out 0; have hfz12_1 := blk_frozen BK317.out 1; have hfz12_2 := blk_frozen BK317.out 2; have hfz12_3 := blk_frozen BK317.out 3; have hfz12_4 := blk_frozen BK317.out 4; have hfz12_5 := blk_frozen BK317.out 5) | ((with_reducible refine gate_dst (N := 19) rfl ?_); (try (refine gate_guard (by rfl) ?_; dsimp only)); refine Kd.N_lit k27 _ 27 ?hg (N' := 19) ?hd (xs := ([(⟨a1_0, (⟨a1_1, a1_2, l1_3, l1_4⟩ : S25), a1_5⟩ : S27)] : List (S27))) (inner := [.int .i64 a1_0, .int .i64 a1_1, .string a1_2, .slice A1_3 l1_3.length c1_3, .slice A1_4 l1_4.length c1_4, .int .i64 a1_5]) (ok := (fun k_ => ((P1_3_ k_ ∨ P1_4_ k_) ∨ w.heap.size ≤ k_) ∧ k_ ≠ gb317)) (okp := (fun k_ => ((P1_3_ k_ ∨ P1_4_ k_) ∨ w.heap.size ≤ k_) ∧ k_ ≠ gb317)) ?hr ?hp (fun _ hk => hk) ((show ∀ k_, w11.heap.size ≤ k_ → (fun k_ => ((P1_3_ k_ ∨ P1_4_ k_) ∨ w.heap.size ≤ k_) ∧ k_ ≠ gb317) k_ from fun k_ hk => ⟨(.inr (Nat.le_trans (below_size (by repeat (first | (with_reducible first | exact HB.out | apply below_alloc | apply pw_below_drewN | apply below_drew1 | refine below_set ?_ GE317.out) | exact HB.out))) hk)), Kd.freshB (g := gb317) (o := .cells #[.int .i64 a1_0, .int .i64 a1_1, .string a1_2, .slice A1_3 l1_3.length c1_3, .slice A1_4 l1_4.length c1_4, .int .i64 a1_5] 27 (0, 0)) (by (with_reducible repeat (first | refine blk_drewN ?_ _ | refine blk_drew ?_ | refine blk_alloc ?_ _)); exact BK317.out) k_ hk⟩) _ (Nat.le_refl _)) (Below.refl _ _) (Nat.le_refl _) (by simp) ?_; (case hd => rfl); (case hg => rfl); (case hr => first | (go_simp; done) | (go_simp; rfl)); (case hp => exact (Reps.c6 (show Kd.FK k27 _ _ (⟨a1_0, (⟨a1_1, a1_2, l1_3, l1_4⟩ : S25), a1_5⟩ : S27) [.int .i64 a1_0, .int .i64 a1_1, .string a1_2, .slice A1_3 l1_3.length c1_3, .slice A1_4 l1_4.length c1_4, .int .i64 a1_5] from (k27_mkF _ _ (⟨a1_0, (⟨a1_1, a1_2, l1_3, l1_4⟩ : S25), a1_5⟩ : S27) (Kd.V_reads' (Kd.V_mono (ok' := (fun k_ => ((P1_3_ k_ ∨ P1_4_ k_) ∨ w.heap.size ≤ k_) ∧ k_ ≠ gb317)) (HO1_3.out) (fun k_ hk => ⟨hk.1, hk.2⟩))).2.1 (Kd.V_F (Kd.V_mono (ok' := (fun k_ => ((P1_3_ k_ ∨ P1_4_ k_) ∨ w.heap.size ≤ k_) ∧ k_ ≠ gb317)) (HO1_3.out) (fun k_ hk => ⟨hk.1, hk.2⟩))) (Kd.V_reads' (Kd.V_mono (ok' := (fun k_ => ((P1_3_ k_ ∨ P1_4_ k_) ∨ w.heap.size ≤ k_) ∧ k_ ≠ gb317)) (HO1_4.out) (fun k_ hk => ⟨hk.1, hk.2⟩))).2.1 (Kd.V_F (Kd.V_mono (ok' := (fun k_ => ((P1_3_ k_ ∨ P1_4_ k_) ∨ w.heap.size ≤ k_) ∧ k_ ≠ gb317)) (HO1_4.out) (fun k_ hk => ⟨hk.1, hk.2⟩))))) (Reps.none _ _))); intro v321 w13 ho14 hb hg_ hnew_; clear hg_ hnew_; (first | rw [← Ny320.out] at ho14 | (simp only [Int.reduceToNat] at ho14; rw [← Ny320.out] at ho14)); have n0_ := Aside0.mk (Kd.V_elder' (by (with_reducible repeat (first | apply Kd.V_alloc | apply Kd.V_drewN | apply Kd.V_drew)); exact HO1_3.out) (Kd.N_base ho14) hb); have n1_ := Aside0.mk (Kd.V_elder' (by (with_reducible repeat (first | apply Kd.V_alloc | apply Kd.V_drewN | apply Kd.V_drew)); exact HO1_4.out) (Kd.N_base ho14) hb); have n2_ := Aside0.mk (Kd.N_lower ho14 (below_size (by repeat (first | (with_reducible first | exact HB.out | apply below_alloc | apply pw_below_drewN | apply below_drew1 | refine below_set ?_ GE317.out) | exact HB.out)))); have n3_ := Aside0.mk (blk_below (g := gb317) (o := .cells #[.int .i64 a1_0, .int .i64 a1_1, .string a1_2, .slice A1_3 l1_3.length c1_3, .slice A1_4 l1_4.length c1_4, .int .i64 a1_5] 27 (0, 0)) (by (with_reducible repeat (first | refine blk_drewN ?_ _ | refine blk_drew ?_ | refine blk_alloc ?_ _)); exact BK317.out) hb); have n4_ := Aside0.mk (below_step (by repeat (first | (with_reducible first | exact HB.out | apply below_alloc | apply pw_below_drewN | apply below_drew1 | refine below_set ?_ GE317.out) | exact HB.out)) hb); clear HO1_3; clear HO1_4; clear BK317; clear HB; have HO1_3 := n0_; have HO1_4 := n1_; have HO322 := n2_; have BK317 := n3_; have HB := n4_; clear n0_ n1_ n2_ n3_ n4_; clear hb ho14; obtain ⟨Ao15, co15, eo15⟩ := Kd.N_slice HO322.out; subst eo15) | (go_at_call 8; refine calls_of_args (args' := #[.slice Ao15 y320.length co15]) (by first | rfl) ?_; (with_reducible refine (switchyardlaw19_small.calls k _ _ y320 t323 _ ?side1 ?side2 A10.out).mono ?_); (case side1 => repeat (first | exact (Kd.N_reads' HO322.out).2.2 | (with_reducible refine Kd.C_alloc ?_ _) | (with_reducible refine Kd.C_drewN ?_ _) | (with_reducible refine Kd.C_drew ?_))); (case side2 => exact (Kd.N_reads' HO322.out).2.1); rintro e w16 ⟨rfl, hb⟩; have n0_ := Aside0.mk (Kd.V_below (by (with_reducible repeat (first | apply Kd.V_alloc | apply Kd.V_drewN | apply Kd.V_drew)); exact HO1_3.out) hb); have n1_ := Aside0.mk (Kd.V_below (by (with_reducible repeat (first | apply Kd.V_alloc | apply Kd.V_drewN | apply Kd.V_drew)); exact HO1_4.out) hb); have n2_ := Aside0.mk (Kd.N_below (by (with_reducible repeat (first | apply Kd.N_alloc | apply Kd.N_drewN | apply Kd.N_drew)); exact HO322.out) hb); have n3_ := Aside0.mk (blk_below (g := gb317) (o := .cells #[.int .i64 a1_0, .int .i64 a1_1, .string a1_2, .slice A1_3 l1_3.length c1_3, .slice A1_4 l1_4.length c1_4, .int .i64 a1_5] 27 (0, 0)) (by (with_reducible repeat (first | refine blk_drewN ?_ _ | refine blk_drew ?_ | refine blk_alloc ?_ _)); exact BK317.out) hb); have n4_ := Aside0.mk (below_step (by repeat (first | (with_reducible first | exact HB.out | apply below_alloc | apply pw_below_drewN | apply below_drew1 | refine below_set ?_ GE317.out) | exact HB.out)) hb); clear HO1_3; clear HO1_4; clear HO322; clear BK317; clear HB; have HO1_3 := n0_; have HO1_4 := n1_; have HO322 := n2_; have BK317 := n3_; have HB := n4_; clear n0_ n1_ n2_ n3_ n4_; (try clear hb); (try clear hb2); (try clear hk); (try clear hi)))
        go_meet
        case rel => exact ⟨_, (!t323), (by first | rfl | (simp; done) | (simp [*]; done)), H', ⟨by first | omega | exact Nat.le_refl _⟩, ⟨by (with_reducible repeat (first | apply Kd.V_alloc | apply Kd.V_drewN | apply Kd.V_drew)); exact Kd.V_mono HO1_3.out (fun _ hk => ⟨hk.1.1, hk.1.2⟩)⟩, ⟨by (with_reducible repeat (first | apply Kd.V_alloc | apply Kd.V_drewN | apply Kd.V_drew)); exact Kd.V_mono HO1_4.out (fun _ hk => ⟨hk.1.1, hk.1.2⟩)⟩, ⟨by (with_reducible repeat (first | refine blk_drewN ?_ _ | refine blk_drew ?_ | refine blk_alloc ?_ _)); exact BK317.out⟩, ⟨by repeat (first | (with_reducible first | exact HB.out | apply below_alloc | apply pw_below_drewN | apply below_drew1 | refine below_set ?_ GE317.out) | exact HB.out)⟩⟩
      · replace c9 := Bool.eq_false_iff.mpr c9
        subst c9
        have H1 : (switchyardlaw19_DeadCounts.j0 k l0 true a1_0 a1_1 a1_2 l1_3 l1_4 a1_5) = some r := by rw [if_neg (show ¬ (false = true) by decide)] at H; exact H
        clear H
        have H := H1
        clear H1
        have H' := Aside0.mk H
        clear H
        go_wp2_with (first | ((with_reducible refine gate_callee (f := 8) rfl ?_); refine goesL_ (some 15) rfl rfl Tryd.func8 (by kernel_rfl) rfl #[.slice A0 l0.length c0] rfl (by (try simp only [List.map_toArray, List.map_cons, List.map_nil]); first | done | rfl | (simp only [List.length_drop, List.length_take]; rfl)) ?_; (with_reducible refine (switchyardlaw19_small.calls k _ _ l0 false _ ?side1 ?side2 A8.out).mono ?_); (case side1 => repeat (first | exact (Kd.C_below HR0.out HB.out) | (with_reducible refine Kd.C_alloc ?_ _) | (with_reducible refine Kd.C_drewN ?_ _) | (with_reducible refine Kd.C_drew ?_))); (case side2 => exact HC0.out); rintro e w17 ⟨rfl, hb⟩; refine ⟨_, rfl, ?_⟩; have n0_ := Aside0.mk (Kd.V_below (by (with_reducible repeat (first | apply Kd.V_alloc | apply Kd.V_drewN | apply Kd.V_drew)); exact HO1_3.out) hb); have n1_ := Aside0.mk (Kd.V_below (by (with_reducible repeat (first | apply Kd.V_alloc | apply Kd.V_drewN | apply Kd.V_drew)); exact HO1_4.out) hb); have n2_ := Aside0.mk (blk_below (g := gb317) (o := .cells #[.int .i64 a1_0, .int .i64 a1_1, .string a1_2, .slice A1_3 l1_3.length c1_3, .slice A1_4 l1_4.length c1_4, .int .i64 a1_5] 27 (0, 0)) (by (with_reducible repeat (first | refine blk_drewN ?_ _ | refine blk_drew ?_ | refine blk_alloc ?_ _)); exact BK317.out) hb); have n3_ := Aside0.mk (below_step (by repeat (first | (with_reducible first | exact HB.out | apply below_alloc | apply pw_below_drewN | apply below_drew1 | refine below_set ?_ GE317.out) | exact HB.out)) hb); clear HO1_3; clear HO1_4; clear BK317; clear HB; have HO1_3 := n0_; have HO1_4 := n1_; have BK317 := n2_; have HB := n3_; clear n0_ n1_ n2_ n3_; (try clear hb); (try clear hb2); (try clear hk); (try clear hi)))
        go_meet
        case rel => exact ⟨_, (true), (by first | rfl | (simp; done) | (simp [*]; done)), H', ⟨by first | omega | exact Nat.le_refl _⟩, ⟨by (with_reducible repeat (first | apply Kd.V_alloc | apply Kd.V_drewN | apply Kd.V_drew)); exact HO1_3.out⟩, ⟨by (with_reducible repeat (first | apply Kd.V_alloc | apply Kd.V_drewN | apply Kd.V_drew)); exact HO1_4.out⟩, ⟨by (with_reducible repeat (first | refine blk_drewN ?_ _ | refine blk_drew ?_ | refine blk_alloc ?_ _)); exact BK317.out⟩, ⟨by repeat (first | (with_reducible first | exact HB.out | apply below_alloc | apply pw_below_drewN | apply below_drew1 | refine below_set ?_ GE317.out) | exact HB.out)⟩⟩
    case rest =>
      clear HC5
      try clear c1
      try clear p2
      try clear c4
      try clear c6
      try clear c7
      try clear c8
      try clear c9
      try clear hcz12_0
      try clear hcz12_1
      try clear hcz12_2
      try clear hcz12_3
      try clear hcz12_4
      try clear hcz12_5
      try clear hfz12_0
      try clear hfz12_1
      try clear hfz12_2
      try clear hfz12_3
      try clear hfz12_4
      try clear hfz12_5
      obtain ⟨kq, x22_4, rfl, HA, HJ4, HO_318003, HO_318004, BK317, HB⟩ := hcut
      cases kq with
      | zero => exact absurd HA.out (by simp [switchyardlaw19_DeadCounts.j0])
      | succ kj4 =>
        have H := HA.out
        clear HA
        simp only [switchyardlaw19_DeadCounts.j0] at H
        by_cases c18 : x22_4 = true
        · subst c18
          have H1 : ((switchyardlaw19_awake.f kj4).bind fun t324 => (some t324)) = some r := by rw [if_pos rfl] at H; exact H
          clear H
          have H := H1
          clear H1
          replace H := Option.bind_eq_some_iff.mp H
          obtain ⟨t324, A190, H⟩ := H
          replace H : (some t324) = some r := H
          have A19 := Aside0.mk A190
          clear A190
          obtain rfl := Option.some.inj H
          go_wp2_with (first | ((with_reducible refine gate_callee (f := 7) rfl ?_); refine goesL_ (some 23) rfl rfl Tryd.func7 (by kernel_rfl) rfl #[] rfl (by (try simp only [List.map_toArray, List.map_cons, List.map_nil]); first | done | rfl | (simp only [List.length_drop, List.length_take]; rfl)) ?_; (with_reducible refine (switchyardlaw19_awake.calls kj4  t324 _ A19.out (Tabs.below HT.out (by repeat (first | (with_reducible first | exact HB.out | apply below_alloc | apply pw_below_drewN | apply below_drew1 | refine below_set ?_ GE317.out) | exact HB.out)))).mono ?_); rintro e w20 ⟨rfl, hb⟩; refine ⟨_, rfl, ?_⟩; have n0_ := Aside0.mk (Kd.V_below (by (with_reducible repeat (first | apply Kd.V_alloc | apply Kd.V_drewN | apply Kd.V_drew)); exact HO_318003.out) hb); have n1_ := Aside0.mk (Kd.V_below (by (with_reducible repeat (first | apply Kd.V_alloc | apply Kd.V_drewN | apply Kd.V_drew)); exact HO_318004.out) hb); have n2_ := Aside0.mk (blk_below (g := gb317) (o := .cells #[.int .i64 a1_0, .int .i64 a1_1, .string a1_2, .slice A1_3 l1_3.length c1_3, .slice A1_4 l1_4.length c1_4, .int .i64 a1_5] 27 (0, 0)) (by (with_reducible repeat (first | refine blk_drewN ?_ _ | refine blk_drew ?_ | refine blk_alloc ?_ _)); exact BK317.out) hb); have n3_ := Aside0.mk (below_step (by repeat (first | (with_reducible first | exact HB.out | apply below_alloc | apply pw_below_drewN | apply below_drew1 | refine below_set ?_ GE317.out) | exact HB.out)) hb); clear HO_318003; clear HO_318004; clear BK317; clear HB; have HO_318003 := n0_; have HO_318004 := n1_; have BK317 := n2_; have HB := n3_; clear n0_ n1_ n2_ n3_; (try clear hb); (try clear hb2); (try clear hk); (try clear hi)))
          go_ret
          exact ⟨by first | rfl | (simp [errW_none, errW_some] <;> rfl) | (simp [*, errW_none, errW_some] <;> rfl), by repeat (first | (with_reducible first | exact HB.out | apply below_alloc | apply pw_below_drewN | apply below_drew1 | refine below_set ?_ GE317.out) | exact HB.out)⟩
        · replace c18 := Bool.eq_false_iff.mpr c18
          subst c18
          have H1 : (switchyardlaw19_DeadCounts.l0 kj4 l0 0 l0 (l0.length : Int) 0 a1_0 a1_1 a1_2 l1_3 l1_4 a1_5) = some r := by rw [if_neg (show ¬ (false = true) by decide)] at H; exact H
          clear H
          have H := H1
          clear H1
          have H' := Aside0.mk H
          clear H
          go_wp2
          go_loopg [26] kj4 (fun kq v26 w' => ∃ (x26_2 : Int), v26 = .int .i64 x26_2 ∧ Aside0 (switchyardlaw19_DeadCounts.l0 kq l0 0 l0 (l0.length : Int) x26_2 a1_0 a1_1 a1_2 l1_3 l1_4 a1_5 = some r) ∧ Aside0 (kq ≤ kj4) ∧ Aside0 (Kd.V k37 37 w' w.heap.size (fun k_ => ((P1_3_ k_ ∨ P1_4_ k_) ∨ w.heap.size ≤ k_) ∧ k_ ≠ gb317) (.slice A1_3 l1_3.length c1_3) l1_3) ∧ Aside0 (Kd.V k37 37 w' w.heap.size (fun k_ => ((P1_3_ k_ ∨ P1_4_ k_) ∨ w.heap.size ≤ k_) ∧ k_ ≠ gb317) (.slice A1_4 l1_4.length c1_4) l1_4) ∧ Aside0 (w'.heap[gb317]? = some (.cells #[.int .i64 a1_0, .int .i64 a1_1, .string a1_2, (.slice A1_3 l1_3.length c1_3), (.slice A1_4 l1_4.length c1_4), .int .i64 a1_5] 27 (0, 0))) ∧ Aside0 (Below w.heap.size w w'))
          case atStart => exact ⟨(0), (by first | rfl | (simp; done) | (simp [*]; done)), H', ⟨Nat.le_refl _⟩, ⟨by (with_reducible repeat (first | apply Kd.V_alloc | apply Kd.V_drewN | apply Kd.V_drew)); exact HO_318003.out⟩, ⟨by (with_reducible repeat (first | apply Kd.V_alloc | apply Kd.V_drewN | apply Kd.V_drew)); exact HO_318004.out⟩, ⟨by (with_reducible repeat (first | refine blk_drewN ?_ _ | refine blk_drew ?_ | refine blk_alloc ?_ _)); exact BK317.out⟩, ⟨by repeat (first | (with_reducible first | exact HB.out | apply below_alloc | apply pw_below_drewN | apply below_drew1 | refine below_set ?_ GE317.out) | exact HB.out)⟩⟩
          case round =>
            clear H'
            try clear c1
            try clear p2
            try clear c4
            try clear c6
            try clear c7
            try clear c8
            try clear c9
            try clear c18
            try clear hcz12_0
            try clear hcz12_1
            try clear hcz12_2
            try clear hcz12_3
            try clear hcz12_4
            try clear hcz12_5
            try clear hfz12_0
            try clear hfz12_1
            try clear hfz12_2
            try clear hfz12_3
            try clear hfz12_4
            try clear hfz12_5
            try clear p2
            obtain ⟨x26_2, rfl, HA, HK2, HO_318003, HO_318004, BK317, HB⟩ := hrel
            cases gk with
            | zero => exact absurd HA.out (by simp [switchyardlaw19_DeadCounts.l0])
            | succ k2 =>
              have H := HA.out
              clear HA
              simp only [switchyardlaw19_DeadCounts.l0] at H
              by_cases c21 : x26_2 < (l0.length : Int)
              · rw [if_pos c21] at H
                have c21b0 : decide (x26_2 < (l0.length : Int)) = true := decide_eq_true c21
                clear c21
                by_cases c22 : 0 ≤ x26_2
                · rw [if_pos c22] at H
                  have c22b0 : decide (0 ≤ x26_2) = true := decide_eq_true c22
                  clear c22
                  by_cases c23 : x26_2 < (l0.length : Int)
                  · rw [if_pos c23] at H
                    have c23b0 : decide (x26_2 < (l0.length : Int)) = true := decide_eq_true c23
                    clear c23
                    replace H := Option.bind_eq_some_iff.mp H
                    obtain ⟨t327, A240, H⟩ := H
                    replace H : (if t327.toList = ([] : List UInt8) then ((switchyardlaw19_awake.f k2).bind fun t328 => (some t328)) else (switchyardlaw19_DeadCounts.l0 k2 l0 0 l0 (l0.length : Int) (wrap64 (x26_2 + 1)) a1_0 a1_1 a1_2 l1_3 l1_4 a1_5)) = some r := H
                    have A24 := Aside0.mk A240
                    clear A240
                    by_cases c25 : t327.toList = ([] : List UInt8)
                    · rw [if_pos c25] at H
                      have c25b0 : (t327.toList == ([] : List UInt8)) = true := beq_iff_eq.mpr c25
                      have c25b1 : (t327.toList != ([] : List UInt8)) = false := bne_eq_false_iff_eq.mpr c25
                      clear c25
                      replace H := Option.bind_eq_some_iff.mp H
                      obtain ⟨t328, A260, H⟩ := H
                      replace H : (some t328) = some r := H
                      have A26 := Aside0.mk A260
                      clear A260
                      obtain rfl := Option.some.inj H
                      have p325 : 0 ≤ (x26_2 : Int) := of_decide_eq_true (by first | (with_reducible assumption) | assumption)
                      have q325 : x26_2 < (l0.length : Int) := of_decide_eq_true (by first | (with_reducible assumption) | assumption)
                      obtain ⟨ad325, A325_3, c325_3, A325_4, c325_4, e325, hx325_0, hx325_1, hx325_2, hx325_3, hx325_4, hx325_5, hl325_3, hi325_3, hl325_4, hi325_4⟩ := at_T27 HR0.out x26_2 p325 q325
                      cases e325
                      replace hx325_0 := (HB.out.cell (World.block_lt_of_cell? w _ hx325_0)).trans hx325_0
                      replace hx325_1 := (HB.out.cell (World.block_lt_of_cell? w _ hx325_1)).trans hx325_1
                      replace hx325_2 := (HB.out.cell (World.block_lt_of_cell? w _ hx325_2)).trans hx325_2
                      replace hx325_3 := (HB.out.cell (World.block_lt_of_cell? w _ hx325_3)).trans hx325_3
                      replace hx325_4 := (HB.out.cell (World.block_lt_of_cell? w _ hx325_4)).trans hx325_4
                      replace hx325_5 := (HB.out.cell (World.block_lt_of_cell? w _ hx325_5)).trans hx325_5
                      have HR325_3 := Aside0.mk hi325_3
                      have HC325_3 := Aside0.mk hl325_3
                      clear hi325_3 hl325_3
                      have HR325_4 := Aside0.mk hi325_4
                      have HC325_4 := Aside0.mk hl325_4
                      clear hi325_4 hl325_4
                      replace p325 := eq_true p325
                      replace q325 := eq_true q325
                      go_wp2_with (first | ((with_reducible refine gate_dst (N := 7) rfl ?_); (try (refine gate_guard (by rfl) ?_; dsimp only)); refine box_event ?hg (N := 7) ?hd (cs := #[.int .i64 0, .int .i64 0, .string (⟨#[]⟩ : ByteArray), .slice none 0 0, .slice none 0 0, .int .i64 0]) (t := 27) ?hr ?_; (case hd => rfl); (case hg => rfl); (case hr => first | (go_simp; done) | (go_simp; rfl)); intro gb326 hg w27 hbox hb; have n0_ := Aside0.mk (Kd.V_below (Kd.V_elderB (by (with_reducible repeat (first | apply Kd.V_alloc | apply Kd.V_drewN | apply Kd.V_drew)); exact HO_318003.out) gb326 (Nat.le_of_eq hg.symm)) hb); have n1_ := Aside0.mk (Kd.V_below (Kd.V_elderB (by (with_reducible repeat (first | apply Kd.V_alloc | apply Kd.V_drewN | apply Kd.V_drew)); exact HO_318004.out) gb326 (Nat.le_of_eq hg.symm)) hb); have n2_ := Aside0.mk (blk_below (g := gb317) (o := .cells #[.int .i64 a1_0, .int .i64 a1_1, .string a1_2, .slice A1_3 l1_3.length c1_3, .slice A1_4 l1_4.length c1_4, .int .i64 a1_5] 27 (0, 0)) (by (with_reducible repeat (first | refine blk_drewN ?_ _ | refine blk_drew ?_ | refine blk_alloc ?_ _)); exact BK317.out) hb); have n3_ := Aside0.mk (below_step (by repeat (first | (with_reducible first | exact HB.out | apply below_alloc | apply pw_below_drewN | apply below_drew1 | refine below_set ?_ GE317.out) | exact HB.out)) hb); have n4_ := Aside0.mk (hbox); have n5_ := Aside0.mk ((by rw [hg]; exact (below_size (by repeat (first | (with_reducible first | exact HB.out | apply below_alloc | apply pw_below_drewN | apply below_drew1 | refine below_set ?_ GE317.out) | exact HB.out))) : w.heap.size ≤ gb326)); have n6_ := Aside0.mk ((by rw [hg]; exact (below_size (by repeat (first | (with_reducible first | exact HB.out | apply below_alloc | apply pw_below_drewN | apply below_drew1 | refine below_set ?_ GE317.out) | exact HB.out))) : w.heap.size ≤ gb326)); have n7_ := Aside0.mk ((by rw [hg]; exact Nat.ne_of_lt (blk_lt (g := gb317) (o := .cells #[.int .i64 a1_0, .int .i64 a1_1, .string a1_2, .slice A1_3 l1_3.length c1_3, .slice A1_4 l1_4.length c1_4, .int .i64 a1_5] 27 (0, 0)) (by (with_reducible repeat (first | refine blk_drewN ?_ _ | refine blk_drew ?_ | refine blk_alloc ?_ _)); exact BK317.out)) : gb317 ≠ gb326)); have n8_ := Aside0.mk ((by rw [hg]; exact Nat.ne_of_gt (blk_lt (g := gb317) (o := .cells #[.int .i64 a1_0, .int .i64 a1_1, .string a1_2, .slice A1_3 l1_3.length c1_3, .slice A1_4 l1_4.length c1_4, .int .i64 a1_5] 27 (0, 0)) (by (with_reducible repeat (first | refine blk_drewN ?_ _ | refine blk_drew ?_ | refine blk_alloc ?_ _)); exact BK317.out)) : gb326 ≠ gb317)); clear HO_318003; clear HO_318004; clear BK317; clear HB; have HO_318003 := n0_; have HO_318004 := n1_; have BK317 := n2_; have HB := n3_; have BK326 := n4_; have GW326 := n5_; have GE326 := n6_; have NB317_326 := n7_; have NB326_317 := n8_; clear n0_ n1_ n2_ n3_ n4_ n5_ n6_ n7_ n8_; clear hb hbox hg; have hnb28 := NB326_317.out; have hnc28 := NB317_326.out; have hcz29_0 : w27.cell? ⟨gb326, 0, none⟩ = some (.int .i64 0) := (blk_cell BK326.out 0).trans rfl; have hcz29_1 : w27.cell? ⟨gb326, 1, none⟩ = some (.int .i64 0) := (blk_cell BK326.out 1).trans rfl; have hcz29_2 : w27.cell? ⟨gb326, 2, none⟩ = some (.string (⟨#[]⟩ : ByteArray)) := (blk_cell BK326.out 2).trans rfl; have hcz29_3 : w27.cell? ⟨gb326, 3, none⟩ = some (.slice none 0 0) := (blk_cell BK326.out 3).trans rfl; have hcz29_4 : w27.cell? ⟨gb326, 4, none⟩ = some (.slice none 0 0) := (blk_cell BK326.out 4).trans rfl; have hcz29_5 : w27.cell? ⟨gb326, 5, none⟩ = some (.int .i64 0) := (blk_cell BK326.out 5).trans rfl; have hfz29_0 := blk_frozen BK326.out 0; have hfz29_1 := blk_frozen BK326.out 1; have hfz29_2 := blk_frozen BK326.out 2; have hfz29_3 := blk_frozen BK326.out 3; have hfz29_4 := blk_frozen BK326.out 4; have hfz29_5 := blk_frozen BK326.out 5) | ((with_reducible refine gate_callee (f := 12) rfl ?_); refine goesL_ (some 32) rfl rfl Tryd.func12 (by kernel_rfl) rfl #[.int .i64 ((rd_T27 l0 x26_2).f2)] rfl (by (try simp only [List.map_toArray, List.map_cons, List.map_nil]); first | done | rfl | (simp only [List.length_drop, List.length_take]; rfl)) ?_; (with_reducible refine (dead_Word.calls ((rd_T27 l0 x26_2).f2) t327 _ A24.out (Tabs.below HT.out (by repeat (first | (with_reducible first | exact HB.out | apply below_alloc | apply pw_below_drewN | apply below_drew1 | refine below_set ?_ GE317.out | refine below_set ?_ GE326.out) | exact HB.out)))).mono ?_); rintro e w30 ⟨rfl, hb⟩; refine ⟨_, rfl, ?_⟩; have n0_ := Aside0.mk (Kd.V_below (by (with_reducible repeat (first | apply Kd.V_alloc | apply Kd.V_drewN | apply Kd.V_drew)); exact (Kd.V_mono (Kd.V_far (p := ⟨gb326, 5, none⟩) (Kd.V_far (p := ⟨gb326, 4, none⟩) (Kd.V_far (p := ⟨gb326, 3, none⟩) (Kd.V_far (p := ⟨gb326, 2, none⟩) (Kd.V_far (p := ⟨gb326, 1, none⟩) (Kd.V_far (p := ⟨gb326, 0, none⟩) (Kd.V_mono HO_318003.out (fun k_ hk => (⟨hk, hk.2⟩ : _ ∧ k_ ≠ gb326))) (fun _ hk => hk.2) (.int .i64 ((rd_T27 l0 x26_2).f0))) (fun _ hk => hk.2) (.int .i64 ((rd_T27 l0 x26_2).f1.f0))) (fun _ hk => hk.2) (.string ((rd_T27 l0 x26_2).f1.f1))) (fun _ hk => hk.2) (.slice A325_3 ((rd_T27 l0 x26_2).f1.f2).length c325_3)) (fun _ hk => hk.2) (.slice A325_4 ((rd_T27 l0 x26_2).f1.f3).length c325_4)) (fun _ hk => hk.2) (.int .i64 ((rd_T27 l0 x26_2).f2))) (fun _ h_ => h_.1))) hb); have n1_ := Aside0.mk (Kd.V_below (by (with_reducible repeat (first | apply Kd.V_alloc | apply Kd.V_drewN | apply Kd.V_drew)); exact (Kd.V_mono (Kd.V_far (p := ⟨gb326, 5, none⟩) (Kd.V_far (p := ⟨gb326, 4, none⟩) (Kd.V_far (p := ⟨gb326, 3, none⟩) (Kd.V_far (p := ⟨gb326, 2, none⟩) (Kd.V_far (p := ⟨gb326, 1, none⟩) (Kd.V_far (p := ⟨gb326, 0, none⟩) (Kd.V_mono HO_318004.out (fun k_ hk => (⟨hk, hk.2⟩ : _ ∧ k_ ≠ gb326))) (fun _ hk => hk.2) (.int .i64 ((rd_T27 l0 x26_2).f0))) (fun _ hk => hk.2) (.int .i64 ((rd_T27 l0 x26_2).f1.f0))) (fun _ hk => hk.2) (.string ((rd_T27 l0 x26_2).f1.f1))) (fun _ hk => hk.2) (.slice A325_3 ((rd_T27 l0 x26_2).f1.f2).length c325_3)) (fun _ hk => hk.2) (.slice A325_4 ((rd_T27 l0 x26_2).f1.f3).length c325_4)) (fun _ hk => hk.2) (.int .i64 ((rd_T27 l0 x26_2).f2))) (fun _ h_ => h_.1))) hb); have n2_ := Aside0.mk (blk_below (g := gb317) (o := .cells #[.int .i64 a1_0, .int .i64 a1_1, .string a1_2, .slice A1_3 l1_3.length c1_3, .slice A1_4 l1_4.length c1_4, .int .i64 a1_5] 27 (0, 0)) (by (with_reducible repeat (first | refine blk_drewN ?_ _ | refine blk_drew ?_ | refine blk_alloc ?_ _)); refine blk_far ?_ NB317_326.out _; (with_reducible repeat (first | refine blk_drewN ?_ _ | refine blk_drew ?_ | refine blk_alloc ?_ _)); refine blk_far ?_ NB317_326.out _; (with_reducible repeat (first | refine blk_drewN ?_ _ | refine blk_drew ?_ | refine blk_alloc ?_ _)); refine blk_far ?_ NB317_326.out _; (with_reducible repeat (first | refine blk_drewN ?_ _ | refine blk_drew ?_ | refine blk_alloc ?_ _)); refine blk_far ?_ NB317_326.out _; (with_reducible repeat (first | refine blk_drewN ?_ _ | refine blk_drew ?_ | refine blk_alloc ?_ _)); refine blk_far ?_ NB317_326.out _; (with_reducible repeat (first | refine blk_drewN ?_ _ | refine blk_drew ?_ | refine blk_alloc ?_ _)); refine blk_far ?_ NB317_326.out _; (with_reducible repeat (first | refine blk_drewN ?_ _ | refine blk_drew ?_ | refine blk_alloc ?_ _)); exact BK317.out) hb); have n3_ := Aside0.mk (blk_below (g := gb326) (o := .cells #[.int .i64 ((rd_T27 l0 x26_2).f0), .int .i64 ((rd_T27 l0 x26_2).f1.f0), .string ((rd_T27 l0 x26_2).f1.f1), .slice A325_3 ((rd_T27 l0 x26_2).f1.f2).length c325_3, .slice A325_4 ((rd_T27 l0 x26_2).f1.f3).length c325_4, .int .i64 ((rd_T27 l0 x26_2).f2)] 27 (0, 0)) (by (with_reducible repeat (first | refine blk_drewN ?_ _ | refine blk_drew ?_ | refine blk_alloc ?_ _)); refine blk_put (cs := #[.int .i64 ((rd_T27 l0 x26_2).f0), .int .i64 ((rd_T27 l0 x26_2).f1.f0), .string ((rd_T27 l0 x26_2).f1.f1), .slice A325_3 ((rd_T27 l0 x26_2).f1.f2).length c325_3, .slice A325_4 ((rd_T27 l0 x26_2).f1.f3).length c325_4, .int .i64 0]) ?_ 5 _ rfl; (with_reducible repeat (first | refine blk_drewN ?_ _ | refine blk_drew ?_ | refine blk_alloc ?_ _)); refine blk_put (cs := #[.int .i64 ((rd_T27 l0 x26_2).f0), .int .i64 ((rd_T27 l0 x26_2).f1.f0), .string ((rd_T27 l0 x26_2).f1.f1), .slice A325_3 ((rd_T27 l0 x26_2).f1.f2).length c325_3, .slice none 0 0, .int .i64 0]) ?_ 4 _ rfl; (with_reducible repeat (first | refine blk_drewN ?_ _ | refine blk_drew ?_ | refine blk_alloc ?_ _)); refine blk_put (cs := #[.int .i64 ((rd_T27 l0 x26_2).f0), .int .i64 ((rd_T27 l0 x26_2).f1.f0), .string ((rd_T27 l0 x26_2).f1.f1), .slice none 0 0, .slice none 0 0, .int .i64 0]) ?_ 3 _ rfl; (with_reducible repeat (first | refine blk_drewN ?_ _ | refine blk_drew ?_ | refine blk_alloc ?_ _)); refine blk_put (cs := #[.int .i64 ((rd_T27 l0 x26_2).f0), .int .i64 ((rd_T27 l0 x26_2).f1.f0), .string (⟨#[]⟩ : ByteArray), .slice none 0 0, .slice none 0 0, .int .i64 0]) ?_ 2 _ rfl; (with_reducible repeat (first | refine blk_drewN ?_ _ | refine blk_drew ?_ | refine blk_alloc ?_ _)); refine blk_put (cs := #[.int .i64 ((rd_T27 l0 x26_2).f0), .int .i64 0, .string (⟨#[]⟩ : ByteArray), .slice none 0 0, .slice none 0 0, .int .i64 0]) ?_ 1 _ rfl; (with_reducible repeat (first | refine blk_drewN ?_ _ | refine blk_drew ?_ | refine blk_alloc ?_ _)); refine blk_put (cs := #[.int .i64 0, .int .i64 0, .string (⟨#[]⟩ : ByteArray), .slice none 0 0, .slice none 0 0, .int .i64 0]) ?_ 0 _ rfl; (with_reducible repeat (first | refine blk_drewN ?_ _ | refine blk_drew ?_ | refine blk_alloc ?_ _)); exact BK326.out) hb); have n4_ := Aside0.mk (below_step (by repeat (first | (with_reducible first | exact HB.out | apply below_alloc | apply pw_below_drewN | apply below_drew1 | refine below_set ?_ GE317.out | refine below_set ?_ GE326.out) | exact HB.out)) hb); clear HO_318003; clear HO_318004; clear BK317; clear BK326; clear HB; have HO_318003 := n0_; have HO_318004 := n1_; have BK317 := n2_; have BK326 := n3_; have HB := n4_; clear n0_ n1_ n2_ n3_ n4_; (try clear hb); (try clear hb2); (try clear hk); (try clear hi)) | ((with_reducible refine gate_callee (f := 7) rfl ?_); refine goesL_ (some 34) rfl rfl Tryd.func7 (by kernel_rfl) rfl #[] rfl (by (try simp only [List.map_toArray, List.map_cons, List.map_nil]); first | done | rfl | (simp only [List.length_drop, List.length_take]; rfl)) ?_; (with_reducible refine (switchyardlaw19_awake.calls k2  t328 _ A26.out (Tabs.below HT.out (by repeat (first | (with_reducible first | exact HB.out | apply below_alloc | apply pw_below_drewN | apply below_drew1 | refine below_set ?_ GE317.out | refine below_set ?_ GE326.out) | exact HB.out)))).mono ?_); rintro e w31 ⟨rfl, hb⟩; refine ⟨_, rfl, ?_⟩; have n0_ := Aside0.mk (Kd.V_below (by (with_reducible repeat (first | apply Kd.V_alloc | apply Kd.V_drewN | apply Kd.V_drew)); exact HO_318003.out) hb); have n1_ := Aside0.mk (Kd.V_below (by (with_reducible repeat (first | apply Kd.V_alloc | apply Kd.V_drewN | apply Kd.V_drew)); exact HO_318004.out) hb); have n2_ := Aside0.mk (blk_below (g := gb317) (o := .cells #[.int .i64 a1_0, .int .i64 a1_1, .string a1_2, .slice A1_3 l1_3.length c1_3, .slice A1_4 l1_4.length c1_4, .int .i64 a1_5] 27 (0, 0)) (by (with_reducible repeat (first | refine blk_drewN ?_ _ | refine blk_drew ?_ | refine blk_alloc ?_ _)); exact BK317.out) hb); have n3_ := Aside0.mk (blk_below (g := gb326) (o := .cells #[.int .i64 ((rd_T27 l0 x26_2).f0), .int .i64 ((rd_T27 l0 x26_2).f1.f0), .string ((rd_T27 l0 x26_2).f1.f1), .slice A325_3 ((rd_T27 l0 x26_2).f1.f2).length c325_3, .slice A325_4 ((rd_T27 l0 x26_2).f1.f3).length c325_4, .int .i64 ((rd_T27 l0 x26_2).f2)] 27 (0, 0)) (by (with_reducible repeat (first | refine blk_drewN ?_ _ | refine blk_drew ?_ | refine blk_alloc ?_ _)); exact BK326.out) hb); have n4_ := Aside0.mk (below_step (by repeat (first | (with_reducible first | exact HB.out | apply below_alloc | apply pw_below_drewN | apply below_drew1 | refine below_set ?_ GE317.out | refine below_set ?_ GE326.out) | exact HB.out)) hb); clear HO_318003; clear HO_318004; clear BK317; clear BK326; clear HB; have HO_318003 := n0_; have HO_318004 := n1_; have BK317 := n2_; have BK326 := n3_; have HB := n4_; clear n0_ n1_ n2_ n3_ n4_; (try clear hb); (try clear hb2); (try clear hk); (try clear hi)))
                      go_ret
                      exact ⟨by first | rfl | (simp [errW_none, errW_some] <;> rfl) | (simp [*, errW_none, errW_some] <;> rfl), by repeat (first | (with_reducible first | exact HB.out | apply below_alloc | apply pw_below_drewN | apply below_drew1 | refine below_set ?_ GE317.out | refine below_set ?_ GE326.out) | exact HB.out)⟩
                    · rw [if_neg c25] at H
                      have c25b0 : (t327.toList == ([] : List UInt8)) = false := beq_eq_false_iff_ne.mpr c25
                      have c25b1 : (t327.toList != ([] : List UInt8)) = true := bne_iff_ne.mpr c25
                      have H' := Aside0.mk H
                      clear H
                      have p325 : 0 ≤ (x26_2 : Int) := of_decide_eq_true (by first | (with_reducible assumption) | assumption)
                      have q325 : x26_2 < (l0.length : Int) := of_decide_eq_true (by first | (with_reducible assumption) | assumption)
                      obtain ⟨ad325, A325_3, c325_3, A325_4, c325_4, e325, hx325_0, hx325_1, hx325_2, hx325_3, hx325_4, hx325_5, hl325_3, hi325_3, hl325_4, hi325_4⟩ := at_T27 HR0.out x26_2 p325 q325
                      cases e325
                      replace hx325_0 := (HB.out.cell (World.block_lt_of_cell? w _ hx325_0)).trans hx325_0
                      replace hx325_1 := (HB.out.cell (World.block_lt_of_cell? w _ hx325_1)).trans hx325_1
                      replace hx325_2 := (HB.out.cell (World.block_lt_of_cell? w _ hx325_2)).trans hx325_2
                      replace hx325_3 := (HB.out.cell (World.block_lt_of_cell? w _ hx325_3)).trans hx325_3
                      replace hx325_4 := (HB.out.cell (World.block_lt_of_cell? w _ hx325_4)).trans hx325_4
                      replace hx325_5 := (HB.out.cell (World.block_lt_of_cell? w _ hx325_5)).trans hx325_5
                      have HR325_3 := Aside0.mk hi325_3
                      have HC325_3 := Aside0.mk hl325_3
                      clear hi325_3 hl325_3
                      have HR325_4 := Aside0.mk hi325_4
                      have HC325_4 := Aside0.mk hl325_4
                      clear hi325_4 hl325_4
                      replace p325 := eq_true p325
                      replace q325 := eq_true q325
                      go_wp2_with (first | ((with_reducible refine gate_dst (N := 7) rfl ?_); (try (refine gate_guard (by rfl) ?_; dsimp only)); refine box_event ?hg (N := 7) ?hd (cs := #[.int .i64 0, .int .i64 0, .string (⟨#[]⟩ : ByteArray), .slice none 0 0, .slice none 0 0, .int .i64 0]) (t := 27) ?hr ?_; (case hd => rfl); (case hg => rfl); (case hr => first | (go_simp; done) | (go_simp; rfl)); intro gb326 hg w32 hbox hb; have n0_ := Aside0.mk (Kd.V_below (Kd.V_elderB (by (with_reducible repeat (first | apply Kd.V_alloc | apply Kd.V_drewN | apply Kd.V_drew)); exact HO_318003.out) gb326 (Nat.le_of_eq hg.symm)) hb); have n1_ := Aside0.mk (Kd.V_below (Kd.V_elderB (by (with_reducible repeat (first | apply Kd.V_alloc | apply Kd.V_drewN | apply Kd.V_drew)); exact HO_318004.out) gb326 (Nat.le_of_eq hg.symm)) hb); have n2_ := Aside0.mk (blk_below (g := gb317) (o := .cells #[.int .i64 a1_0, .int .i64 a1_1, .string a1_2, .slice A1_3 l1_3.length c1_3, .slice A1_4 l1_4.length c1_4, .int .i64 a1_5] 27 (0, 0)) (by (with_reducible repeat (first | refine blk_drewN ?_ _ | refine blk_drew ?_ | refine blk_alloc ?_ _)); exact BK317.out) hb); have n3_ := Aside0.mk (below_step (by repeat (first | (with_reducible first | exact HB.out | apply below_alloc | apply pw_below_drewN | apply below_drew1 | refine below_set ?_ GE317.out) | exact HB.out)) hb); have n4_ := Aside0.mk (hbox); have n5_ := Aside0.mk ((by rw [hg]; exact (below_size (by repeat (first | (with_reducible first | exact HB.out | apply below_alloc | apply pw_below_drewN | apply below_drew1 | refine below_set ?_ GE317.out) | exact HB.out))) : w.heap.size ≤ gb326)); have n6_ := Aside0.mk ((by rw [hg]; exact (below_size (by repeat (first | (with_reducible first | exact HB.out | apply below_alloc | apply pw_below_drewN | apply below_drew1 | refine below_set ?_ GE317.out) | exact HB.out))) : w.heap.size ≤ gb326)); have n7_ := Aside0.mk ((by rw [hg]; exact Nat.ne_of_lt (blk_lt (g := gb317) (o := .cells #[.int .i64 a1_0, .int .i64 a1_1, .string a1_2, .slice A1_3 l1_3.length c1_3, .slice A1_4 l1_4.length c1_4, .int .i64 a1_5] 27 (0, 0)) (by (with_reducible repeat (first | refine blk_drewN ?_ _ | refine blk_drew ?_ | refine blk_alloc ?_ _)); exact BK317.out)) : gb317 ≠ gb326)); have n8_ := Aside0.mk ((by rw [hg]; exact Nat.ne_of_gt (blk_lt (g := gb317) (o := .cells #[.int .i64 a1_0, .int .i64 a1_1, .string a1_2, .slice A1_3 l1_3.length c1_3, .slice A1_4 l1_4.length c1_4, .int .i64 a1_5] 27 (0, 0)) (by (with_reducible repeat (first | refine blk_drewN ?_ _ | refine blk_drew ?_ | refine blk_alloc ?_ _)); exact BK317.out)) : gb326 ≠ gb317)); clear HO_318003; clear HO_318004; clear BK317; clear HB; have HO_318003 := n0_; have HO_318004 := n1_; have BK317 := n2_; have HB := n3_; have BK326 := n4_; have GW326 := n5_; have GE326 := n6_; have NB317_326 := n7_; have NB326_317 := n8_; clear n0_ n1_ n2_ n3_ n4_ n5_ n6_ n7_ n8_; clear hb hbox hg; have hnb33 := NB326_317.out; have hnc33 := NB317_326.out; have hcz34_0 : w32.cell? ⟨gb326, 0, none⟩ = some (.int .i64 0) := (blk_cell BK326.out 0).trans rfl; have hcz34_1 : w32.cell? ⟨gb326, 1, none⟩ = some (.int .i64 0) := (blk_cell BK326.out 1).trans rfl; have hcz34_2 : w32.cell? ⟨gb326, 2, none⟩ = some (.string (⟨#[]⟩ : ByteArray)) := (blk_cell BK326.out 2).trans rfl; have hcz34_3 : w32.cell? ⟨gb326, 3, none⟩ = some (.slice none 0 0) := (blk_cell BK326.out 3).trans rfl; have hcz34_4 : w32.cell? ⟨gb326, 4, none⟩ = some (.slice none 0 0) := (blk_cell BK326.out 4).trans rfl; have hcz34_5 : w32.cell? ⟨gb326, 5, none⟩ = some (.int .i64 0) := (blk_cell BK326.out 5).trans rfl; have hfz34_0 := blk_frozen BK326.out 0; have hfz34_1 := blk_frozen BK326.out 1; have hfz34_2 := blk_frozen BK326.out 2; have hfz34_3 := blk_frozen BK326.out 3; have hfz34_4 := blk_frozen BK326.out 4; have hfz34_5 := blk_frozen BK326.out 5) | ((with_reducible refine gate_callee (f := 12) rfl ?_); refine goesL_ (some 32) rfl rfl Tryd.func12 (by kernel_rfl) rfl #[.int .i64 ((rd_T27 l0 x26_2).f2)] rfl (by (try simp only [List.map_toArray, List.map_cons, List.map_nil]); first | done | rfl | (simp only [List.length_drop, List.length_take]; rfl)) ?_; (with_reducible refine (dead_Word.calls ((rd_T27 l0 x26_2).f2) t327 _ A24.out (Tabs.below HT.out (by repeat (first | (with_reducible first | exact HB.out | apply below_alloc | apply pw_below_drewN | apply below_drew1 | refine below_set ?_ GE317.out | refine below_set ?_ GE326.out) | exact HB.out)))).mono ?_); rintro e w35 ⟨rfl, hb⟩; refine ⟨_, rfl, ?_⟩; have n0_ := Aside0.mk (Kd.V_below (by (with_reducible repeat (first | apply Kd.V_alloc | apply Kd.V_drewN | apply Kd.V_drew)); exact (Kd.V_mono (Kd.V_far (p := ⟨gb326, 5, none⟩) (Kd.V_far (p := ⟨gb326, 4, none⟩) (Kd.V_far (p := ⟨gb326, 3, none⟩) (Kd.V_far (p := ⟨gb326, 2, none⟩) (Kd.V_far (p := ⟨gb326, 1, none⟩) (Kd.V_far (p := ⟨gb326, 0, none⟩) (Kd.V_mono HO_318003.out (fun k_ hk => (⟨hk, hk.2⟩ : _ ∧ k_ ≠ gb326))) (fun _ hk => hk.2) (.int .i64 ((rd_T27 l0 x26_2).f0))) (fun _ hk => hk.2) (.int .i64 ((rd_T27 l0 x26_2).f1.f0))) (fun _ hk => hk.2) (.string ((rd_T27 l0 x26_2).f1.f1))) (fun _ hk => hk.2) (.slice A325_3 ((rd_T27 l0 x26_2).f1.f2).length c325_3)) (fun _ hk => hk.2) (.slice A325_4 ((rd_T27 l0 x26_2).f1.f3).length c325_4)) (fun _ hk => hk.2) (.int .i64 ((rd_T27 l0 x26_2).f2))) (fun _ h_ => h_.1))) hb); have n1_ := Aside0.mk (Kd.V_below (by (with_reducible repeat (first | apply Kd.V_alloc | apply Kd.V_drewN | apply Kd.V_drew)); exact (Kd.V_mono (Kd.V_far (p := ⟨gb326, 5, none⟩) (Kd.V_far (p := ⟨gb326, 4, none⟩) (Kd.V_far (p := ⟨gb326, 3, none⟩) (Kd.V_far (p := ⟨gb326, 2, none⟩) (Kd.V_far (p := ⟨gb326, 1, none⟩) (Kd.V_far (p := ⟨gb326, 0, none⟩) (Kd.V_mono HO_318004.out (fun k_ hk => (⟨hk, hk.2⟩ : _ ∧ k_ ≠ gb326))) (fun _ hk => hk.2) (.int .i64 ((rd_T27 l0 x26_2).f0))) (fun _ hk => hk.2) (.int .i64 ((rd_T27 l0 x26_2).f1.f0))) (fun _ hk => hk.2) (.string ((rd_T27 l0 x26_2).f1.f1))) (fun _ hk => hk.2) (.slice A325_3 ((rd_T27 l0 x26_2).f1.f2).length c325_3)) (fun _ hk => hk.2) (.slice A325_4 ((rd_T27 l0 x26_2).f1.f3).length c325_4)) (fun _ hk => hk.2) (.int .i64 ((rd_T27 l0 x26_2).f2))) (fun _ h_ => h_.1))) hb); have n2_ := Aside0.mk (blk_below (g := gb317) (o := .cells #[.int .i64 a1_0, .int .i64 a1_1, .string a1_2, .slice A1_3 l1_3.length c1_3, .slice A1_4 l1_4.length c1_4, .int .i64 a1_5] 27 (0, 0)) (by (with_reducible repeat (first | refine blk_drewN ?_ _ | refine blk_drew ?_ | refine blk_alloc ?_ _)); refine blk_far ?_ NB317_326.out _; (with_reducible repeat (first | refine blk_drewN ?_ _ | refine blk_drew ?_ | refine blk_alloc ?_ _)); refine blk_far ?_ NB317_326.out _; (with_reducible repeat (first | refine blk_drewN ?_ _ | refine blk_drew ?_ | refine blk_alloc ?_ _)); refine blk_far ?_ NB317_326.out _; (with_reducible repeat (first | refine blk_drewN ?_ _ | refine blk_drew ?_ | refine blk_alloc ?_ _)); refine blk_far ?_ NB317_326.out _; (with_reducible repeat (first | refine blk_drewN ?_ _ | refine blk_drew ?_ | refine blk_alloc ?_ _)); refine blk_far ?_ NB317_326.out _; (with_reducible repeat (first | refine blk_drewN ?_ _ | refine blk_drew ?_ | refine blk_alloc ?_ _)); refine blk_far ?_ NB317_326.out _; (with_reducible repeat (first | refine blk_drewN ?_ _ | refine blk_drew ?_ | refine blk_alloc ?_ _)); exact BK317.out) hb); have n3_ := Aside0.mk (blk_below (g := gb326) (o := .cells #[.int .i64 ((rd_T27 l0 x26_2).f0), .int .i64 ((rd_T27 l0 x26_2).f1.f0), .string ((rd_T27 l0 x26_2).f1.f1), .slice A325_3 ((rd_T27 l0 x26_2).f1.f2).length c325_3, .slice A325_4 ((rd_T27 l0 x26_2).f1.f3).length c325_4, .int .i64 ((rd_T27 l0 x26_2).f2)] 27 (0, 0)) (by (with_reducible repeat (first | refine blk_drewN ?_ _ | refine blk_drew ?_ | refine blk_alloc ?_ _)); refine blk_put (cs := #[.int .i64 ((rd_T27 l0 x26_2).f0), .int .i64 ((rd_T27 l0 x26_2).f1.f0), .string ((rd_T27 l0 x26_2).f1.f1), .slice A325_3 ((rd_T27 l0 x26_2).f1.f2).length c325_3, .slice A325_4 ((rd_T27 l0 x26_2).f1.f3).length c325_4, .int .i64 0]) ?_ 5 _ rfl; (with_reducible repeat (first | refine blk_drewN ?_ _ | refine blk_drew ?_ | refine blk_alloc ?_ _)); refine blk_put (cs := #[.int .i64 ((rd_T27 l0 x26_2).f0), .int .i64 ((rd_T27 l0 x26_2).f1.f0), .string ((rd_T27 l0 x26_2).f1.f1), .slice A325_3 ((rd_T27 l0 x26_2).f1.f2).length c325_3, .slice none 0 0, .int .i64 0]) ?_ 4 _ rfl; (with_reducible repeat (first | refine blk_drewN ?_ _ | refine blk_drew ?_ | refine blk_alloc ?_ _)); refine blk_put (cs := #[.int .i64 ((rd_T27 l0 x26_2).f0), .int .i64 ((rd_T27 l0 x26_2).f1.f0), .string ((rd_T27 l0 x26_2).f1.f1), .slice none 0 0, .slice none 0 0, .int .i64 0]) ?_ 3 _ rfl; (with_reducible repeat (first | refine blk_drewN ?_ _ | refine blk_drew ?_ | refine blk_alloc ?_ _)); refine blk_put (cs := #[.int .i64 ((rd_T27 l0 x26_2).f0), .int .i64 ((rd_T27 l0 x26_2).f1.f0), .string (⟨#[]⟩ : ByteArray), .slice none 0 0, .slice none 0 0, .int .i64 0]) ?_ 2 _ rfl; (with_reducible repeat (first | refine blk_drewN ?_ _ | refine blk_drew ?_ | refine blk_alloc ?_ _)); refine blk_put (cs := #[.int .i64 ((rd_T27 l0 x26_2).f0), .int .i64 0, .string (⟨#[]⟩ : ByteArray), .slice none 0 0, .slice none 0 0, .int .i64 0]) ?_ 1 _ rfl; (with_reducible repeat (first | refine blk_drewN ?_ _ | refine blk_drew ?_ | refine blk_alloc ?_ _)); refine blk_put (cs := #[.int .i64 0, .int .i64 0, .string (⟨#[]⟩ : ByteArray), .slice none 0 0, .slice none 0 0, .int .i64 0]) ?_ 0 _ rfl; (with_reducible repeat (first | refine blk_drewN ?_ _ | refine blk_drew ?_ | refine blk_alloc ?_ _)); exact BK326.out) hb); have n4_ := Aside0.mk (below_step (by repeat (first | (with_reducible first | exact HB.out | apply below_alloc | apply pw_below_drewN | apply below_drew1 | refine below_set ?_ GE317.out | refine below_set ?_ GE326.out) | exact HB.out)) hb); clear HO_318003; clear HO_318004; clear BK317; clear BK326; clear HB; have HO_318003 := n0_; have HO_318004 := n1_; have BK317 := n2_; have BK326 := n3_; have HB := n4_; clear n0_ n1_ n2_ n3_ n4_; (try clear hb); (try clear hb2); (try clear hk); (try clear hi)))
                      go_roundg k2
                      case measure => have := HJ4.out; have := HK2.out; omega
                      case rel => exact ⟨(wrap64 (x26_2 + 1)), (by first | rfl | (simp; done) | (simp [*]; done)), H', ⟨by have := HJ4.out; have := HK2.out; omega⟩, ⟨by (with_reducible repeat (first | apply Kd.V_alloc | apply Kd.V_drewN | apply Kd.V_drew)); exact Kd.V_mono HO_318003.out (fun _ hk => ⟨hk.1.1, hk.1.2⟩)⟩, ⟨by (with_reducible repeat (first | apply Kd.V_alloc | apply Kd.V_drewN | apply Kd.V_drew)); exact Kd.V_mono HO_318004.out (fun _ hk => ⟨hk.1.1, hk.1.2⟩)⟩, ⟨by (with_reducible repeat (first | refine blk_drewN ?_ _ | refine blk_drew ?_ | refine blk_alloc ?_ _)); exact BK317.out⟩, ⟨by repeat (first | (with_reducible first | exact HB.out | apply below_alloc | apply pw_below_drewN | apply below_drew1 | refine below_set ?_ GE317.out | refine below_set ?_ GE326.out) | exact HB.out)⟩⟩
                  · rw [if_neg c23] at H
                    exact absurd H (by simp)
                · rw [if_neg c22] at H
                  exact absurd H (by simp)
              · rw [if_neg c21] at H
                have c21b0 : decide (x26_2 < (l0.length : Int)) = false := decide_eq_false c21
                clear c21
                replace H := Option.bind_eq_some_iff.mp H
                obtain ⟨⟨t329, t332⟩, A360, H⟩ := H
                replace H : (switchyardlaw19_DeadCounts.l1 k2 l0 0 t329 t332 0 a1_0 a1_1 a1_2 l1_3 l1_4 a1_5) = some r := H
                have A36 := Aside0.mk A360
                clear A360
                have H' := Aside0.mk H
                clear H
                have hcz37_0 : wr.cell? ⟨gb317, 0, none⟩ = some (.int .i64 a1_0) := (blk_cell BK317.out 0).trans rfl
                have hcz37_1 : wr.cell? ⟨gb317, 1, none⟩ = some (.int .i64 a1_1) := (blk_cell BK317.out 1).trans rfl
                have hcz37_2 : wr.cell? ⟨gb317, 2, none⟩ = some (.string a1_2) := (blk_cell BK317.out 2).trans rfl
                have hcz37_3 : wr.cell? ⟨gb317, 3, none⟩ = some (.slice A1_3 l1_3.length c1_3) := (blk_cell BK317.out 3).trans rfl
                have hcz37_4 : wr.cell? ⟨gb317, 4, none⟩ = some (.slice A1_4 l1_4.length c1_4) := (blk_cell BK317.out 4).trans rfl
                have hcz37_5 : wr.cell? ⟨gb317, 5, none⟩ = some (.int .i64 a1_5) := (blk_cell BK317.out 5).trans rfl
                have hfz37_0 := blk_frozen BK317.out 0
                have hfz37_1 := blk_frozen BK317.out 1
                have hfz37_2 := blk_frozen BK317.out 2
                have hfz37_3 := blk_frozen BK317.out 3
                have hfz37_4 := blk_frozen BK317.out 4
                have hfz37_5 := blk_frozen BK317.out 5
                go_wp2_with (first | ((with_reducible refine gate_callee (f := 9) rfl ?_); refine goesL_ (some 44) rfl rfl Tryd.func9 (by kernel_rfl) rfl #[.slice A0 l0.length c0, .int .i64 a1_0, .agg #[.int .i64 a1_1, .string a1_2, .slice A1_3 l1_3.length c1_3, .slice A1_4 l1_4.length c1_4], .int .i64 a1_5, .int .i64 1000] rfl (by (try simp only [List.map_toArray, List.map_cons, List.map_nil]); first | done | rfl | (simp only [List.length_drop, List.length_take]; rfl)) ?_; (with_reducible refine (dead_Put.calls k2 _ _ l0 a1_0 a1_1 a1_2 _ _ l1_3 _ _ l1_4 a1_5 1000 t329 t332 _ ?side1 ?side2 ?side3 ?side4 ?side5 ?side6 A36.out (Tabs.below HT.out (by repeat (first | (with_reducible first | exact HB.out | apply below_alloc | apply pw_below_drewN | apply below_drew1 | refine below_set ?_ GE317.out) | exact HB.out)))).mono ?_); (case side1 => repeat (first | exact (Kd.C_below HR0.out HB.out) | (with_reducible refine Kd.C_alloc ?_ _) | (with_reducible refine Kd.C_drewN ?_ _) | (with_reducible refine Kd.C_drew ?_))); (case side2 => exact HC0.out); (case side3 => repeat (first | exact (Kd.V_reads' HO_318003.out).2.2 | (with_reducible refine Kd.C_alloc ?_ _) | (with_reducible refine Kd.C_drewN ?_ _) | (with_reducible refine Kd.C_drew ?_))); (case side4 => exact (Kd.V_reads' HO_318003.out).2.1); (case side5 => repeat (first | exact (Kd.V_reads' HO_318004.out).2.2 | (with_reducible refine Kd.C_alloc ?_ _) | (with_reducible refine Kd.C_drewN ?_ _) | (with_reducible refine Kd.C_drew ?_))); (case side6 => exact (Kd.V_reads' HO_318004.out).2.1); rintro e w38 ⟨v330, rfl, ho0, hb⟩; refine ⟨_, rfl, ?_⟩; have n0_ := Aside0.mk (Kd.V_elder' (by (with_reducible repeat (first | apply Kd.V_alloc | apply Kd.V_drewN | apply Kd.V_drew)); exact HO_318003.out) (Kd.N_base (Kd.R_N ho0)) hb); have n1_ := Aside0.mk (Kd.V_elder' (by (with_reducible repeat (first | apply Kd.V_alloc | apply Kd.V_drewN | apply Kd.V_drew)); exact HO_318004.out) (Kd.N_base (Kd.R_N ho0)) hb); have n2_ := Aside0.mk (Kd.N_lower (Kd.N_mono (ok' := fun k_ => ((P1_3_ k_ ∨ P1_4_ k_) ∨ w.heap.size ≤ k_) ∧ k_ ≠ gb317) (Kd.R_N (Kd.R_bound ho0)) (fun k_ hk_ => ⟨(.inr (Nat.le_trans (below_size (by repeat (first | (with_reducible first | exact HB.out | apply below_alloc | apply pw_below_drewN | apply below_drew1 | refine below_set ?_ GE317.out) | exact HB.out))) hk_.2.1)), (Kd.freshB (g := gb317) (o := .cells #[.int .i64 a1_0, .int .i64 a1_1, .string a1_2, .slice A1_3 l1_3.length c1_3, .slice A1_4 l1_4.length c1_4, .int .i64 a1_5] 27 (0, 0)) (by (with_reducible repeat (first | refine blk_drewN ?_ _ | refine blk_drew ?_ | refine blk_alloc ?_ _)); exact BK317.out) k_ hk_.2.1)⟩)) (below_size (by repeat (first | (with_reducible first | exact HB.out | apply below_alloc | apply pw_below_drewN | apply below_drew1 | refine below_set ?_ GE317.out) | exact HB.out)))); have n3_ := Aside0.mk (blk_below (g := gb317) (o := .cells #[.int .i64 a1_0, .int .i64 a1_1, .string a1_2, .slice A1_3 l1_3.length c1_3, .slice A1_4 l1_4.length c1_4, .int .i64 a1_5] 27 (0, 0)) (by (with_reducible repeat (first | refine blk_drewN ?_ _ | refine blk_drew ?_ | refine blk_alloc ?_ _)); exact BK317.out) hb); have n4_ := Aside0.mk (below_step (by repeat (first | (with_reducible first | exact HB.out | apply below_alloc | apply pw_below_drewN | apply below_drew1 | refine below_set ?_ GE317.out) | exact HB.out)) hb); clear HO_318003; clear HO_318004; clear BK317; clear HB; have HO_318003 := n0_; have HO_318004 := n1_; have HO331 := n2_; have BK317 := n3_; have HB := n4_; clear n0_ n1_ n2_ n3_ n4_; (try clear hb); (try clear hb2); (try clear hk); (try clear hi); (try clear ho0)))
                go_loopg [5, 47] k2 (fun kq v5 v47 w' => ∃ (x5_3 : Int) (x47_3 : Int), v5 = .int .i64 x5_3 ∧ v47 = .int .i64 x47_3 ∧ Aside0 (switchyardlaw19_DeadCounts.l1 kq l0 x5_3 t329 t332 x47_3 a1_0 a1_1 a1_2 l1_3 l1_4 a1_5 = some r) ∧ Aside0 (kq ≤ k2) ∧ Aside0 (Kd.N k27 27 w' w.heap.size (fun k_ => ((P1_3_ k_ ∨ P1_4_ k_) ∨ w.heap.size ≤ k_) ∧ k_ ≠ gb317) v330 t329) ∧ Aside0 (Kd.V k37 37 w' w.heap.size (fun k_ => ((P1_3_ k_ ∨ P1_4_ k_) ∨ w.heap.size ≤ k_) ∧ some k_ ≠ (v330 : Value).ownBlock ∧ k_ ≠ gb317) (.slice A1_3 l1_3.length c1_3) l1_3) ∧ Aside0 (Kd.V k37 37 w' w.heap.size (fun k_ => ((P1_3_ k_ ∨ P1_4_ k_) ∨ w.heap.size ≤ k_) ∧ some k_ ≠ (v330 : Value).ownBlock ∧ k_ ≠ gb317) (.slice A1_4 l1_4.length c1_4) l1_4) ∧ Aside0 (w'.heap[gb317]? = some (.cells #[.int .i64 a1_0, .int .i64 a1_1, .string a1_2, (.slice A1_3 l1_3.length c1_3), (.slice A1_4 l1_4.length c1_4), .int .i64 a1_5] 27 (0, 0))) ∧ Aside0 (Below w.heap.size w w'))
                case atStart => exact ⟨(0), (0), (by first | rfl | (simp; done) | (simp [*]; done)), (by first | rfl | (simp; done) | (simp [*]; done)), H', ⟨Nat.le_refl _⟩, ⟨by (with_reducible repeat (first | apply Kd.N_alloc | apply Kd.N_drewN | apply Kd.N_drew)); exact HO331.out⟩, ⟨by (with_reducible repeat (first | apply Kd.V_alloc | apply Kd.V_drewN | apply Kd.V_drew)); exact Kd.V_mono HO_318003.out (fun _ hk => ⟨hk.1.1, ⟨hk.2, hk.1.2⟩⟩)⟩, ⟨by (with_reducible repeat (first | apply Kd.V_alloc | apply Kd.V_drewN | apply Kd.V_drew)); exact Kd.V_mono HO_318004.out (fun _ hk => ⟨hk.1.1, ⟨hk.2, hk.1.2⟩⟩)⟩, ⟨by (with_reducible repeat (first | refine blk_drewN ?_ _ | refine blk_drew ?_ | refine blk_alloc ?_ _)); exact BK317.out⟩, ⟨by repeat (first | (with_reducible first | exact HB.out | apply below_alloc | apply pw_below_drewN | apply below_drew1 | refine below_set ?_ GE317.out) | exact HB.out)⟩⟩
                case round =>
                  clear H'
                  try clear c1
                  try clear c2
                  try clear p2
                  try clear c3
                  try clear p3
                  try clear q3
                  try clear hx3
                  try clear c4
                  try clear c6
                  try clear p6
                  try clear c7
                  try clear c8
                  try clear c9
                  try clear c12
                  try clear c18
                  try clear c21
                  try clear c21b0
                  try clear c22
                  try clear c22b0
                  try clear c23
                  try clear c23b0
                  try clear c25
                  try clear c25b0
                  try clear c25b1
                  try clear c28
                  try clear c32
                  try clear p32
                  try clear q32
                  try clear hx32
                  try clear c33
                  try clear hcz12_0
                  try clear hcz12_1
                  try clear hcz12_2
                  try clear hcz12_3
                  try clear hcz12_4
                  try clear hcz12_5
                  try clear hcz29_0
                  try clear hcz29_1
                  try clear hcz29_2
                  try clear hcz29_3
                  try clear hcz29_4
                  try clear hcz29_5
                  try clear hcz34_0
                  try clear hcz34_1
                  try clear hcz34_2
                  try clear hcz34_3
                  try clear hcz34_4
                  try clear hcz34_5
                  try clear hcz37_0
                  try clear hcz37_1
                  try clear hcz37_2
                  try clear hcz37_3
                  try clear hcz37_4
                  try clear hcz37_5
                  try clear hfz12_0
                  try clear hfz12_1
                  try clear hfz12_2
                  try clear hfz12_3
                  try clear hfz12_4
                  try clear hfz12_5
                  try clear hfz29_0
                  try clear hfz29_1
                  try clear hfz29_2
                  try clear hfz29_3
                  try clear hfz29_4
                  try clear hfz29_5
                  try clear hfz34_0
                  try clear hfz34_1
                  try clear hfz34_2
                  try clear hfz34_3
                  try clear hfz34_4
                  try clear hfz34_5
                  try clear hfz37_0
                  try clear hfz37_1
                  try clear hfz37_2
                  try clear hfz37_3
                  try clear hfz37_4
                  try clear hfz37_5
                  try clear hx325_0
                  try clear hx325_1
                  try clear hx325_2
                  try clear hx325_3
                  try clear hx325_4
                  try clear hx325_5
                  try clear p2
                  try clear p325
                  try clear q325
                  obtain ⟨x5_3, x47_3, rfl, rfl, HA, HK3, HO_8, HO_318003, HO_318004, BK317, HB⟩ := hrel
                  cases gk with
                  | zero => exact absurd HA.out (by simp [switchyardlaw19_DeadCounts.l1])
                  | succ k3 =>
                    have H := HA.out
                    clear HA
                    simp only [switchyardlaw19_DeadCounts.l1] at H
                    by_cases c39 : x47_3 < 7
                    · rw [if_pos c39] at H
                      have c39b0 : decide (x47_3 < 7) = true := decide_eq_true c39
                      clear c39
                      replace H := Option.bind_eq_some_iff.mp H
                      obtain ⟨t334, A400, H⟩ := H
                      replace H : ((dead_Count.f k3 t329 x47_3).bind fun t335 => ((dead_Count.f k3 l0 x47_3).bind fun t336 => (if t332 = 0 then (if ((t335 == t336) != (x47_3 != a1_5)) = true then (none) else (switchyardlaw19_DeadCounts.l1 k3 l0 (wrap64 (x5_3 + t334)) t329 t332 (wrap64 (x47_3 + 1)) a1_0 a1_1 a1_2 l1_3 l1_4 a1_5)) else (switchyardlaw19_DeadCounts.l1 k3 l0 (wrap64 (x5_3 + t334)) t329 t332 (wrap64 (x47_3 + 1)) a1_0 a1_1 a1_2 l1_3 l1_4 a1_5)))) = some r := H
                      have A40 := Aside0.mk A400
                      clear A400
                      replace H := Option.bind_eq_some_iff.mp H
                      obtain ⟨t335, A410, H⟩ := H
                      replace H : ((dead_Count.f k3 l0 x47_3).bind fun t336 => (if t332 = 0 then (if ((t335 == t336) != (x47_3 != a1_5)) = true then (none) else (switchyardlaw19_DeadCounts.l1 k3 l0 (wrap64 (x5_3 + t334)) t329 t332 (wrap64 (x47_3 + 1)) a1_0 a1_1 a1_2 l1_3 l1_4 a1_5)) else (switchyardlaw19_DeadCounts.l1 k3 l0 (wrap64 (x5_3 + t334)) t329 t332 (wrap64 (x47_3 + 1)) a1_0 a1_1 a1_2 l1_3 l1_4 a1_5))) = some r := H
                      have A41 := Aside0.mk A410
                      clear A410
                      replace H := Option.bind_eq_some_iff.mp H
                      obtain ⟨t336, A420, H⟩ := H
                      replace H : (if t332 = 0 then (if ((t335 == t336) != (x47_3 != a1_5)) = true then (none) else (switchyardlaw19_DeadCounts.l1 k3 l0 (wrap64 (x5_3 + t334)) t329 t332 (wrap64 (x47_3 + 1)) a1_0 a1_1 a1_2 l1_3 l1_4 a1_5)) else (switchyardlaw19_DeadCounts.l1 k3 l0 (wrap64 (x5_3 + t334)) t329 t332 (wrap64 (x47_3 + 1)) a1_0 a1_1 a1_2 l1_3 l1_4 a1_5)) = some r := H
                      have A42 := Aside0.mk A420
                      clear A420
                      by_cases c43 : t332 = 0
                      · rw [if_pos c43] at H
                        have c43b0 : (t332 == 0) = true := beq_iff_eq.mpr c43
                        have c43b1 : (t332 != 0) = false := bne_eq_false_iff_eq.mpr c43
                        clear c43
                        by_cases c44 : ((t335 == t336) != (x47_3 != a1_5)) = true
                        · rw [if_pos c44] at H
                          exact absurd H (by simp)
                        · rw [if_neg c44] at H
                          have c44b0 : ((t335 == t336) != (x47_3 != a1_5)) = false := by simpa using c44
                          (try (have c44b1 : decide ((t335 == t336) = (x47_3 != a1_5)) = true := by simpa using c44))
                          (try (have c44b2 : ((t335 == t336) == (x47_3 != a1_5)) = true := by simpa using c44))
                          clear c44
                          have H' := Aside0.mk H
                          clear H
                          go_wp2_with (first | ((with_reducible refine gate_callee (f := 13) rfl ?_); refine goesL_ (some 53) rfl rfl Tryd.func13 (by kernel_rfl) rfl #[.slice A0 l0.length c0, .int .i64 x47_3] rfl (by (try simp only [List.map_toArray, List.map_cons, List.map_nil]); first | done | rfl | (simp only [List.length_drop, List.length_take]; rfl)) ?_; (with_reducible refine (dead_Count.calls k3 _ _ l0 x47_3 t334 _ ?side1 ?side2 A40.out).mono ?_); (case side1 => repeat (first | exact (Kd.C_below HR0.out HB.out) | (with_reducible refine Kd.C_alloc ?_ _) | (with_reducible refine Kd.C_drewN ?_ _) | (with_reducible refine Kd.C_drew ?_))); (case side2 => exact HC0.out); rintro e w45 ⟨rfl, hb⟩; refine ⟨_, rfl, ?_⟩; have n0_ := Aside0.mk (Kd.N_below (by (with_reducible repeat (first | apply Kd.N_alloc | apply Kd.N_drewN | apply Kd.N_drew)); exact HO_8.out) hb); have n1_ := Aside0.mk (Kd.V_below (by (with_reducible repeat (first | apply Kd.V_alloc | apply Kd.V_drewN | apply Kd.V_drew)); exact HO_318003.out) hb); have n2_ := Aside0.mk (Kd.V_below (by (with_reducible repeat (first | apply Kd.V_alloc | apply Kd.V_drewN | apply Kd.V_drew)); exact HO_318004.out) hb); have n3_ := Aside0.mk (blk_below (g := gb317) (o := .cells #[.int .i64 a1_0, .int .i64 a1_1, .string a1_2, .slice A1_3 l1_3.length c1_3, .slice A1_4 l1_4.length c1_4, .int .i64 a1_5] 27 (0, 0)) (by (with_reducible repeat (first | refine blk_drewN ?_ _ | refine blk_drew ?_ | refine blk_alloc ?_ _)); exact BK317.out) hb); have n4_ := Aside0.mk (below_step (by repeat (first | (with_reducible first | exact HB.out | apply below_alloc | apply pw_below_drewN | apply below_drew1 | refine below_set ?_ GE317.out) | exact HB.out)) hb); clear HO_8; clear HO_318003; clear HO_318004; clear BK317; clear HB; have HO_8 := n0_; have HO_318003 := n1_; have HO_318004 := n2_; have BK317 := n3_; have HB := n4_; clear n0_ n1_ n2_ n3_ n4_; (try clear hb); (try clear hb2); (try clear hk); (try clear hi); obtain ⟨Ao46, co46, eo46⟩ := Kd.N_slice HO_8.out; subst eo46) | ((with_reducible refine gate_callee (f := 13) rfl ?_); refine goesL_ (some 57) rfl rfl Tryd.func13 (by kernel_rfl) rfl #[.slice Ao46 t329.length co46, .int .i64 x47_3] rfl (by (try simp only [List.map_toArray, List.map_cons, List.map_nil]); first | done | rfl | (simp only [List.length_drop, List.length_take]; rfl)) ?_; (with_reducible refine (dead_Count.calls k3 _ _ t329 x47_3 t335 _ ?side1 ?side2 A41.out).mono ?_); (case side1 => repeat (first | exact (Kd.N_reads' HO_8.out).2.2 | (with_reducible refine Kd.C_alloc ?_ _) | (with_reducible refine Kd.C_drewN ?_ _) | (with_reducible refine Kd.C_drew ?_))); (case side2 => exact (Kd.N_reads' HO_8.out).2.1); rintro e w47 ⟨rfl, hb⟩; refine ⟨_, rfl, ?_⟩; have n0_ := Aside0.mk (Kd.N_below (by (with_reducible repeat (first | apply Kd.N_alloc | apply Kd.N_drewN | apply Kd.N_drew)); exact HO_8.out) hb); have n1_ := Aside0.mk (Kd.V_below (by (with_reducible repeat (first | apply Kd.V_alloc | apply Kd.V_drewN | apply Kd.V_drew)); exact HO_318003.out) hb); have n2_ := Aside0.mk (Kd.V_below (by (with_reducible repeat (first | apply Kd.V_alloc | apply Kd.V_drewN | apply Kd.V_drew)); exact HO_318004.out) hb); have n3_ := Aside0.mk (blk_below (g := gb317) (o := .cells #[.int .i64 a1_0, .int .i64 a1_1, .string a1_2, .slice A1_3 l1_3.length c1_3, .slice A1_4 l1_4.length c1_4, .int .i64 a1_5] 27 (0, 0)) (by (with_reducible repeat (first | refine blk_drewN ?_ _ | refine blk_drew ?_ | refine blk_alloc ?_ _)); exact BK317.out) hb); have n4_ := Aside0.mk (below_step (by repeat (first | (with_reducible first | exact HB.out | apply below_alloc | apply pw_below_drewN | apply below_drew1 | refine below_set ?_ GE317.out) | exact HB.out)) hb); clear HO_8; clear HO_318003; clear HO_318004; clear BK317; clear HB; have HO_8 := n0_; have HO_318003 := n1_; have HO_318004 := n2_; have BK317 := n3_; have HB := n4_; clear n0_ n1_ n2_ n3_ n4_; (try clear hb); (try clear hb2); (try clear hk); (try clear hi)) | ((with_reducible refine gate_callee (f := 13) rfl ?_); refine goesL_ (some 60) rfl rfl Tryd.func13 (by kernel_rfl) rfl #[.slice A0 l0.length c0, .int .i64 x47_3] rfl (by (try simp only [List.map_toArray, List.map_cons, List.map_nil]); first | done | rfl | (simp only [List.length_drop, List.length_take]; rfl)) ?_; (with_reducible refine (dead_Count.calls k3 _ _ l0 x47_3 t336 _ ?side1 ?side2 A42.out).mono ?_); (case side1 => repeat (first | exact (Kd.C_below HR0.out HB.out) | (with_reducible refine Kd.C_alloc ?_ _) | (with_reducible refine Kd.C_drewN ?_ _) | (with_reducible refine Kd.C_drew ?_))); (case side2 => exact HC0.out); rintro e w48 ⟨rfl, hb⟩; refine ⟨_, rfl, ?_⟩; have n0_ := Aside0.mk (Kd.N_below (by (with_reducible repeat (first | apply Kd.N_alloc | apply Kd.N_drewN | apply Kd.N_drew)); exact HO_8.out) hb); have n1_ := Aside0.mk (Kd.V_below (by (with_reducible repeat (first | apply Kd.V_alloc | apply Kd.V_drewN | apply Kd.V_drew)); exact HO_318003.out) hb); have n2_ := Aside0.mk (Kd.V_below (by (with_reducible repeat (first | apply Kd.V_alloc | apply Kd.V_drewN | apply Kd.V_drew)); exact HO_318004.out) hb); have n3_ := Aside0.mk (blk_below (g := gb317) (o := .cells #[.int .i64 a1_0, .int .i64 a1_1, .string a1_2, .slice A1_3 l1_3.length c1_3, .slice A1_4 l1_4.length c1_4, .int .i64 a1_5] 27 (0, 0)) (by (with_reducible repeat (first | refine blk_drewN ?_ _ | refine blk_drew ?_ | refine blk_alloc ?_ _)); exact BK317.out) hb); have n4_ := Aside0.mk (below_step (by repeat (first | (with_reducible first | exact HB.out | apply below_alloc | apply pw_below_drewN | apply below_drew1 | refine below_set ?_ GE317.out) | exact HB.out)) hb); clear HO_8; clear HO_318003; clear HO_318004; clear BK317; clear HB; have HO_8 := n0_; have HO_318003 := n1_; have HO_318004 := n2_; have BK317 := n3_; have HB := n4_; clear n0_ n1_ n2_ n3_ n4_; (try clear hb); (try clear hb2); (try clear hk); (try clear hi); have hcz49_0 : w48.cell? ⟨gb317, 0, none⟩ = some (.int .i64 a1_0) := (blk_cell BK317.out 0).trans rfl; have hcz49_1 : w48.cell? ⟨gb317, 1, none⟩ = some (.int .i64 a1_1) := (blk_cell BK317.out 1).trans rfl; have hcz49_2 : w48.cell? ⟨gb317, 2, none⟩ = some (.string a1_2) := (blk_cell BK317.out 2).trans rfl; have hcz49_3 : w48.cell? ⟨gb317, 3, none⟩ = some (.slice A1_3 l1_3.length c1_3) := (blk_cell BK317.out 3).trans rfl; have hcz49_4 : w48.cell? ⟨gb317, 4, none⟩ = some (.slice A1_4 l1_4.length c1_4) := (blk_cell BK317.out 4).trans rfl; have hcz49_5 : w48.cell? ⟨gb317, 5, none⟩ = some (.int .i64 a1_5) := (blk_cell BK317.out 5).trans rfl; have hfz49_0 := blk_frozen BK317.out 0; have hfz49_1 := blk_frozen BK317.out 1; have hfz49_2 := blk_frozen BK317.out 2; have hfz49_3 := blk_frozen BK317.out 3; have hfz49_4 := blk_frozen BK317.out 4; have hfz49_5 := blk_frozen BK317.out 5))
                          go_roundg k3
                          case measure => have := HJ4.out; have := HK2.out; have := HK3.out; omega
                          case rel => exact ⟨(wrap64 (x5_3 + t334)), (wrap64 (x47_3 + 1)), (by first | rfl | (simp; done) | (simp [*]; done)), (by first | rfl | (simp; done) | (simp [*]; done)), H', ⟨by have := HJ4.out; have := HK2.out; have := HK3.out; omega⟩, ⟨by (with_reducible repeat (first | apply Kd.N_alloc | apply Kd.N_drewN | apply Kd.N_drew)); exact HO_8.out⟩, ⟨by (with_reducible repeat (first | apply Kd.V_alloc | apply Kd.V_drewN | apply Kd.V_drew)); exact HO_318003.out⟩, ⟨by (with_reducible repeat (first | apply Kd.V_alloc | apply Kd.V_drewN | apply Kd.V_drew)); exact HO_318004.out⟩, ⟨by (with_reducible repeat (first | refine blk_drewN ?_ _ | refine blk_drew ?_ | refine blk_alloc ?_ _)); exact BK317.out⟩, ⟨by repeat (first | (with_reducible first | exact HB.out | apply below_alloc | apply pw_below_drewN | apply below_drew1 | refine below_set ?_ GE317.out) | exact HB.out)⟩⟩
                      · rw [if_neg c43] at H
                        have c43b0 : (t332 == 0) = false := beq_eq_false_iff_ne.mpr c43
                        have c43b1 : (t332 != 0) = true := bne_iff_ne.mpr c43
                        have H' := Aside0.mk H
                        clear H
                        go_wp2_with (first | ((with_reducible refine gate_callee (f := 13) rfl ?_); refine goesL_ (some 53) rfl rfl Tryd.func13 (by kernel_rfl) rfl #[.slice A0 l0.length c0, .int .i64 x47_3] rfl (by (try simp only [List.map_toArray, List.map_cons, List.map_nil]); first | done | rfl | (simp only [List.length_drop, List.length_take]; rfl)) ?_; (with_reducible refine (dead_Count.calls k3 _ _ l0 x47_3 t334 _ ?side1 ?side2 A40.out).mono ?_); (case side1 => repeat (first | exact (Kd.C_below HR0.out HB.out) | (with_reducible refine Kd.C_alloc ?_ _) | (with_reducible refine Kd.C_drewN ?_ _) | (with_reducible refine Kd.C_drew ?_))); (case side2 => exact HC0.out); rintro e w50 ⟨rfl, hb⟩; refine ⟨_, rfl, ?_⟩; have n0_ := Aside0.mk (Kd.N_below (by (with_reducible repeat (first | apply Kd.N_alloc | apply Kd.N_drewN | apply Kd.N_drew)); exact HO_8.out) hb); have n1_ := Aside0.mk (Kd.V_below (by (with_reducible repeat (first | apply Kd.V_alloc | apply Kd.V_drewN | apply Kd.V_drew)); exact HO_318003.out) hb); have n2_ := Aside0.mk (Kd.V_below (by (with_reducible repeat (first | apply Kd.V_alloc | apply Kd.V_drewN | apply Kd.V_drew)); exact HO_318004.out) hb); have n3_ := Aside0.mk (blk_below (g := gb317) (o := .cells #[.int .i64 a1_0, .int .i64 a1_1, .string a1_2, .slice A1_3 l1_3.length c1_3, .slice A1_4 l1_4.length c1_4, .int .i64 a1_5] 27 (0, 0)) (by (with_reducible repeat (first | refine blk_drewN ?_ _ | refine blk_drew ?_ | refine blk_alloc ?_ _)); exact BK317.out) hb); have n4_ := Aside0.mk (below_step (by repeat (first | (with_reducible first | exact HB.out | apply below_alloc | apply pw_below_drewN | apply below_drew1 | refine below_set ?_ GE317.out) | exact HB.out)) hb); clear HO_8; clear HO_318003; clear HO_318004; clear BK317; clear HB; have HO_8 := n0_; have HO_318003 := n1_; have HO_318004 := n2_; have BK317 := n3_; have HB := n4_; clear n0_ n1_ n2_ n3_ n4_; (try clear hb); (try clear hb2); (try clear hk); (try clear hi); obtain ⟨Ao51, co51, eo51⟩ := Kd.N_slice HO_8.out; subst eo51) | ((with_reducible refine gate_callee (f := 13) rfl ?_); refine goesL_ (some 57) rfl rfl Tryd.func13 (by kernel_rfl) rfl #[.slice Ao51 t329.length co51, .int .i64 x47_3] rfl (by (try simp only [List.map_toArray, List.map_cons, List.map_nil]); first | done | rfl | (simp only [List.length_drop, List.length_take]; rfl)) ?_; (with_reducible refine (dead_Count.calls k3 _ _ t329 x47_3 t335 _ ?side1 ?side2 A41.out).mono ?_); (case side1 => repeat (first | exact (Kd.N_reads' HO_8.out).2.2 | (with_reducible refine Kd.C_alloc ?_ _) | (with_reducible refine Kd.C_drewN ?_ _) | (with_reducible refine Kd.C_drew ?_))); (case side2 => exact (Kd.N_reads' HO_8.out).2.1); rintro e w52 ⟨rfl, hb⟩; refine ⟨_, rfl, ?_⟩; have n0_ := Aside0.mk (Kd.N_below (by (with_reducible repeat (first | apply Kd.N_alloc | apply Kd.N_drewN | apply Kd.N_drew)); exact HO_8.out) hb); have n1_ := Aside0.mk (Kd.V_below (by (with_reducible repeat (first | apply Kd.V_alloc | apply Kd.V_drewN | apply Kd.V_drew)); exact HO_318003.out) hb); have n2_ := Aside0.mk (Kd.V_below (by (with_reducible repeat (first | apply Kd.V_alloc | apply Kd.V_drewN | apply Kd.V_drew)); exact HO_318004.out) hb); have n3_ := Aside0.mk (blk_below (g := gb317) (o := .cells #[.int .i64 a1_0, .int .i64 a1_1, .string a1_2, .slice A1_3 l1_3.length c1_3, .slice A1_4 l1_4.length c1_4, .int .i64 a1_5] 27 (0, 0)) (by (with_reducible repeat (first | refine blk_drewN ?_ _ | refine blk_drew ?_ | refine blk_alloc ?_ _)); exact BK317.out) hb); have n4_ := Aside0.mk (below_step (by repeat (first | (with_reducible first | exact HB.out | apply below_alloc | apply pw_below_drewN | apply below_drew1 | refine below_set ?_ GE317.out) | exact HB.out)) hb); clear HO_8; clear HO_318003; clear HO_318004; clear BK317; clear HB; have HO_8 := n0_; have HO_318003 := n1_; have HO_318004 := n2_; have BK317 := n3_; have HB := n4_; clear n0_ n1_ n2_ n3_ n4_; (try clear hb); (try clear hb2); (try clear hk); (try clear hi)) | ((with_reducible refine gate_callee (f := 13) rfl ?_); refine goesL_ (some 60) rfl rfl Tryd.func13 (by kernel_rfl) rfl #[.slice A0 l0.length c0, .int .i64 x47_3] rfl (by (try simp only [List.map_toArray, List.map_cons, List.map_nil]); first | done | rfl | (simp only [List.length_drop, List.length_take]; rfl)) ?_; (with_reducible refine (dead_Count.calls k3 _ _ l0 x47_3 t336 _ ?side1 ?side2 A42.out).mono ?_); (case side1 => repeat (first | exact (Kd.C_below HR0.out HB.out) | (with_reducible refine Kd.C_alloc ?_ _) | (with_reducible refine Kd.C_drewN ?_ _) | (with_reducible refine Kd.C_drew ?_))); (case side2 => exact HC0.out); rintro e w53 ⟨rfl, hb⟩; refine ⟨_, rfl, ?_⟩; have n0_ := Aside0.mk (Kd.N_below (by (with_reducible repeat (first | apply Kd.N_alloc | apply Kd.N_drewN | apply Kd.N_drew)); exact HO_8.out) hb); have n1_ := Aside0.mk (Kd.V_below (by (with_reducible repeat (first | apply Kd.V_alloc | apply Kd.V_drewN | apply Kd.V_drew)); exact HO_318003.out) hb); have n2_ := Aside0.mk (Kd.V_below (by (with_reducible repeat (first | apply Kd.V_alloc | apply Kd.V_drewN | apply Kd.V_drew)); exact HO_318004.out) hb); have n3_ := Aside0.mk (blk_below (g := gb317) (o := .cells #[.int .i64 a1_0, .int .i64 a1_1, .string a1_2, .slice A1_3 l1_3.length c1_3, .slice A1_4 l1_4.length c1_4, .int .i64 a1_5] 27 (0, 0)) (by (with_reducible repeat (first | refine blk_drewN ?_ _ | refine blk_drew ?_ | refine blk_alloc ?_ _)); exact BK317.out) hb); have n4_ := Aside0.mk (below_step (by repeat (first | (with_reducible first | exact HB.out | apply below_alloc | apply pw_below_drewN | apply below_drew1 | refine below_set ?_ GE317.out) | exact HB.out)) hb); clear HO_8; clear HO_318003; clear HO_318004; clear BK317; clear HB; have HO_8 := n0_; have HO_318003 := n1_; have HO_318004 := n2_; have BK317 := n3_; have HB := n4_; clear n0_ n1_ n2_ n3_ n4_; (try clear hb); (try clear hb2); (try clear hk); (try clear hi)))
                        go_roundg k3
                        case measure => have := HJ4.out; have := HK2.out; have := HK3.out; omega
                        case rel => exact ⟨(wrap64 (x5_3 + t334)), (wrap64 (x47_3 + 1)), (by first | rfl | (simp; done) | (simp [*]; done)), (by first | rfl | (simp; done) | (simp [*]; done)), H', ⟨by have := HJ4.out; have := HK2.out; have := HK3.out; omega⟩, ⟨by (with_reducible repeat (first | apply Kd.N_alloc | apply Kd.N_drewN | apply Kd.N_drew)); exact HO_8.out⟩, ⟨by (with_reducible repeat (first | apply Kd.V_alloc | apply Kd.V_drewN | apply Kd.V_drew)); exact HO_318003.out⟩, ⟨by (with_reducible repeat (first | apply Kd.V_alloc | apply Kd.V_drewN | apply Kd.V_drew)); exact HO_318004.out⟩, ⟨by (with_reducible repeat (first | refine blk_drewN ?_ _ | refine blk_drew ?_ | refine blk_alloc ?_ _)); exact BK317.out⟩, ⟨by repeat (first | (with_reducible first | exact HB.out | apply below_alloc | apply pw_below_drewN | apply below_drew1 | refine below_set ?_ GE317.out) | exact HB.out)⟩⟩
                    · rw [if_neg c39] at H
                      have c39b0 : decide (x47_3 < 7) = false := decide_eq_false c39
                      clear c39
                      replace H := Option.bind_eq_some_iff.mp H
                      obtain ⟨t333, A540, H⟩ := H
                      replace H : (if t333 = true then (some (x5_3 == (l0.length : Int))) else (none)) = some r := H
                      have A54 := Aside0.mk A540
                      clear A540
                      by_cases c55 : t333 = true
                      · subst c55
                        have H1 : (some (x5_3 == (l0.length : Int))) = some r := by rw [if_pos rfl] at H; exact H
                        clear H
                        have H := H1
                        clear H1
                        obtain rfl := Option.some.inj H
                        go_wp2_with (first | ((with_reducible refine gate_callee (f := 7) rfl ?_); refine goesL_ (some 73) rfl rfl Tryd.func7 (by kernel_rfl) rfl #[] rfl (by (try simp only [List.map_toArray, List.map_cons, List.map_nil]); first | done | rfl | (simp only [List.length_drop, List.length_take]; rfl)) ?_; (with_reducible refine (switchyardlaw19_awake.calls k3  true _ A54.out (Tabs.below HT.out (by repeat (first | (with_reducible first | exact HB.out | apply below_alloc | apply pw_below_drewN | apply below_drew1 | refine below_set ?_ GE317.out) | exact HB.out)))).mono ?_); rintro e w56 ⟨rfl, hb⟩; refine ⟨_, rfl, ?_⟩; have n0_ := Aside0.mk (Kd.N_below (by (with_reducible repeat (first | apply Kd.N_alloc | apply Kd.N_drewN | apply Kd.N_drew)); exact HO_8.out) hb); have n1_ := Aside0.mk (Kd.V_below (by (with_reducible repeat (first | apply Kd.V_alloc | apply Kd.V_drewN | apply Kd.V_drew)); exact HO_318003.out) hb); have n2_ := Aside0.mk (Kd.V_below (by (with_reducible repeat (first | apply Kd.V_alloc | apply Kd.V_drewN | apply Kd.V_drew)); exact HO_318004.out) hb); have n3_ := Aside0.mk (blk_below (g := gb317) (o := .cells #[.int .i64 a1_0, .int .i64 a1_1, .string a1_2, .slice A1_3 l1_3.length c1_3, .slice A1_4 l1_4.length c1_4, .int .i64 a1_5] 27 (0, 0)) (by (with_reducible repeat (first | refine blk_drewN ?_ _ | refine blk_drew ?_ | refine blk_alloc ?_ _)); exact BK317.out) hb); have n4_ := Aside0.mk (below_step (by repeat (first | (with_reducible first | exact HB.out | apply below_alloc | apply pw_below_drewN | apply below_drew1 | refine below_set ?_ GE317.out) | exact HB.out)) hb); clear HO_8; clear HO_318003; clear HO_318004; clear BK317; clear HB; have HO_8 := n0_; have HO_318003 := n1_; have HO_318004 := n2_; have BK317 := n3_; have HB := n4_; clear n0_ n1_ n2_ n3_ n4_; (try clear hb); (try clear hb2); (try clear hk); (try clear hi)))
                        go_ret
                        exact ⟨by first | rfl | (simp [errW_none, errW_some] <;> rfl) | (simp [*, errW_none, errW_some] <;> rfl), by repeat (first | (with_reducible first | exact HB.out | apply below_alloc | apply pw_below_drewN | apply below_drew1 | refine below_set ?_ GE317.out) | exact HB.out)⟩
                      · replace c55 := Bool.eq_false_iff.mpr c55
                        subst c55
                        have H1 : (none) = some r := by rw [if_neg (show ¬ (false = true) by decide)] at H; exact H
                        clear H
                        have H := H1
                        clear H1
                        exact absurd H (by simp)
  · replace c4 := Bool.eq_false_iff.mpr c4
    subst c4
    have H1 : (none) = some r := by rw [if_neg (show ¬ (false = true) by decide)] at H; exact H
    clear H
    have H := H1
    clear H1
    exact absurd H (by simp)
end Go.Proofs.YtknbebjphjpgpaaDoor.XD
namespace Go.Proofs.YtknbebjphjpgpaaDoor.XD
open Go.RowKit Go.Proofs.YtknbebjphjpgpaaDoorW.PrintWords Go.Proofs.YtknbebjphjpgpaaDoorW.PrintLast Go.Proofs.YtknbebjphjpgpaaDoorW.PrintMore
set_option linter.unusedVariables false
set_option linter.unusedSimpArgs false
/-- The letters of the reasons below n together. -/
def sumP (l : List S27) : Nat → Nat
  | 0 => 0
  | n + 1 => sumP l n + cntP l (n : Int)
theorem sum_cons (x : S27) (l : List S27) (n : Nat) : sumP (x :: l) n = sumP l n + if 0 ≤ x.f2 ∧ x.f2 < (n : Int) then 1 else 0 := by
  induction n with
  | zero => simp only [sumP]; rw [if_neg (by omega)]
  | succ n ih =>
    simp only [sumP]
    rw [ih]
    have e : cntP (x :: l) (n : Int) = cntP l (n : Int) + if x.f2 = (n : Int) then 1 else 0 := by
      unfold cntP
      by_cases h : x.f2 = (n : Int)
      · rw [List.filter_cons_of_pos (by simpa using h), if_pos h]; simp
      · rw [List.filter_cons_of_neg (by simpa using h), if_neg h]; simp
    rw [e]
    by_cases h : x.f2 = (n : Int)
    · rw [if_pos h, if_neg (by omega), if_pos (by omega)]; omega
    · rw [if_neg h]
      by_cases h2 : 0 ≤ x.f2 ∧ x.f2 < (n : Int)
      · rw [if_pos h2, if_pos (by omega)]; omega
      · rw [if_neg h2, if_neg (by omega)]; omega
theorem sum_all (l : List S27) (h : ∀ x ∈ l, ¬ (x.f2 < 1 ∨ 5 < x.f2)) : sumP l 7 = l.length := by
  induction l with
  | nil => rfl
  | cons x l ih =>
    have hx := h x List.mem_cons_self
    rw [sum_cons, ih (fun y hy => h y (List.mem_cons_of_mem _ hy)), if_pos (by omega), List.length_cons]
theorem sum_le (l : List S27) (n : Nat) : sumP l n ≤ l.length * n := by
  induction n with
  | zero => simp [sumP]
  | succ n ih =>
    have : cntP l (n : Int) ≤ l.length := List.length_filter_le _ _
    simp only [sumP, Nat.mul_succ]; omega
theorem cnt_snoc (l : List S27) (x : S27) (r : Int) : cntP (l ++ [x]) r = cntP l r + if x.f2 = r then 1 else 0 := by
  unfold cntP
  rw [List.filter_append, List.length_append]
  by_cases h : x.f2 = r <;> simp [h]
theorem put_two (l : List S27) (x : S27) (most : Int) : putP l x most = (l ++ [x], 0) ∨ (putP l x most).2 ≠ 0 := by
  unfold putP
  split
  · exact Or.inr (by decide)
  · split
    · exact Or.inr (by decide)
    · split
      · exact Or.inr (by decide)
      · exact Or.inl rfl
theorem counts_l1 (l : List S27) (x : S27) (hl : l.length ≤ 100) (h : ∀ y ∈ l, ¬ (y.f2 < 1 ∨ 5 < y.f2)) : ∀ d n : Nat, n + d = 7 → Ev (fun k => switchyardlaw19_DeadCounts.l1 k l ((sumP l n : Nat) : Int) (putP l x 1000).1 (putP l x 1000).2 (n : Int) x.f0 x.f1.f0 x.f1.f1 x.f1.f2 x.f1.f3 x.f2) true := by
  have hp : (putP l x 1000).1.length ≤ 2000 := by
    unfold putP
    split
    · simp
    · split
      · simp
      · split
        · simp
        · simp; omega
  intro d
  induction d with
  | zero =>
    intro n hn
    refine Ev.step (fun k => by simp only [switchyardlaw19_DeadCounts.l1]; rfl) (Ev.neg (by omega) (Ev.bind awake_ev (Ev.pos rfl (Ev.val ?_))))
    obtain rfl : n = 7 := by omega
    rw [sum_all l h]; simp
  | succ d ih =>
    intro n hn
    have next := ih (n + 1) (by omega)
    refine Ev.step (fun k => by simp only [switchyardlaw19_DeadCounts.l1]; rfl) (Ev.pos (by omega) (Ev.bind (count_ev l _ (by omega)) (Ev.bind (count_ev _ _ hp) (Ev.bind (count_ev l _ (by omega)) ?_))))
    have hs := sum_le l n
    have hs' : l.length * n ≤ 100 * n := Nat.mul_le_mul_right _ hl
    have hc : cntP l (n : Int) ≤ l.length := List.length_filter_le _ _
    have e1 : wrap64 (((sumP l n : Nat) : Int) + ((cntP l (n : Int) : Nat) : Int)) = ((sumP l (n + 1) : Nat) : Int) := by
      simp only [sumP]; unfold wrap64; omega
    have e2 : wrap64 ((n : Int) + 1) = ((n + 1 : Nat) : Int) := wr_cnt (by omega)
    rw [e1, e2]
    rcases put_two l x 1000 with hq | hq
    · have hz : (putP l x 1000).2 = 0 := by rw [hq]
      refine Ev.pos hz (Ev.neg ?_ next)
      rw [hq, cnt_snoc]
      by_cases hr : x.f2 = (n : Int)
      · rw [if_pos hr, hr]; first | (simp; done) | (simp; omega)
      · rw [if_neg hr]; first | (simp [hr, Ne.symm hr]; done) | (simp [hr, Ne.symm hr]; omega)
    · exact Ev.neg hq next
theorem counts_l0 (l : List S27) (x : S27) (h1 : OkA l) (hl : l.length ≤ 100) (hx : OkL x) : ∀ d i : Nat, i + d = l.length → (∀ y ∈ l.take i, ¬ (y.f2 < 1 ∨ 5 < y.f2)) → Ev (fun k => switchyardlaw19_DeadCounts.l0 k l 0 l (l.length : Int) (i : Int) x.f0 x.f1.f0 x.f1.f1 x.f1.f2 x.f1.f3 x.f2) true := by
  intro d
  induction d with
  | zero =>
    intro i hi hy
    rw [List.take_of_length_le (by omega)] at hy
    refine Ev.step (fun k => by simp only [switchyardlaw19_DeadCounts.l0]; rfl) (Ev.neg (by omega) (Ev.bind (put_ev l x 1000 h1 hx) ?_))
    exact counts_l1 l x hl hy 7 0 (by omega)
  | succ d ih =>
    intro i hi hy
    have hlt : i < l.length := by omega
    refine Ev.step (fun k => by simp only [switchyardlaw19_DeadCounts.l0]; rfl) (Ev.pos (by omega) (Ev.pos (by omega) (Ev.pos (by omega) ?_)))
    rw [rd27_at hlt, wr_succ hlt (by omega)]
    unfold dead_Word.f
    refine Ev.bind (Ev.now _) ?_
    by_cases hw : l[i].f2 < 1 ∨ 5 < l[i].f2
    · exact Ev.pos ((word_none _).2 hw) (Ev.bind awake_ev (Ev.now _))
    · refine Ev.neg (fun hh => hw ((word_none _).1 hh)) (ih (i + 1) (by omega) (fun y hh => ?_))
      rw [List.take_succ_eq_append_getElem hlt] at hh
      rcases List.mem_append.1 hh with hh | hh
      · exact hy y hh
      · rw [List.mem_singleton.1 hh]; exact hw
theorem counts_j (l : List S27) (x : S27) (b : Bool) (hb : b = false → (OkA l ∧ l.length ≤ 100) ∧ OkL x) : Ev (fun k => switchyardlaw19_DeadCounts.j0 k l b x.f0 x.f1.f0 x.f1.f1 x.f1.f2 x.f1.f3 x.f2) true := by
  refine Ev.step (fun k => by simp only [switchyardlaw19_DeadCounts.j0]; rfl) ?_
  by_cases h : b = true
  · exact Ev.pos h (Ev.bind awake_ev (Ev.now _))
  · obtain ⟨⟨h1, h2⟩, h3⟩ := hb (by simpa using h)
    exact Ev.neg h (counts_l0 l x h1 h2 h3 l.length 0 (by omega) (by simp))
theorem counts_ev (l : List S27) (x : S27) (hl : l.length ≤ 4611686018427387904) (h1 : smallB l = true → OkA l ∧ l.length ≤ 100) (h2 : smallB [x] = true → OkL x) : Ev (fun k => switchyardlaw19_DeadCounts.f k l x.f0 x.f1.f0 x.f1.f1 x.f1.f2 x.f1.f3 x.f2) true := by
  unfold switchyardlaw19_DeadCounts.f
  refine Ev.bind awake_ev (Ev.pos rfl (Ev.bind (small_ev l hl) ?_))
  by_cases hs : smallB l = true
  · refine Ev.pos hs (Ev.bind (small_ev [x] (by simp)) (counts_j l x _ (fun hb => ⟨h1 hs, h2 (by simpa using hb)⟩)))
  · exact Ev.neg hs (counts_j l x true (fun hb => by cases hb))
set_option maxHeartbeats 1000000 in
theorem counts_walk (A0 : Option Addr) (c0 : Nat) (l0 : (List S27)) (a1_0 : Int) (a1_1 : Int) (a1_2 : ByteArray) (A1_3 : Option Addr) (c1_3 : Nat) (l1_3 : (List S37)) (A1_4 : Option Addr) (c1_4 : Nat) (l1_4 : (List S37)) (a1_5 : Int) (W : World) (hC0 : Kd.C k27 W A0 l0.length l0) (hc0 : l0.length ≤ c0) (hG0 : (l0.length * Tryd.prog.bytesOf 27 ≤ 140737488351232 ∧ l0.length ≤ maxLen ∧ ∀ y ∈ l0, G27 y)) (hG1_0 : (Lit.int .i64 a1_0).wf = true) (hG1_1 : (Lit.int .i64 a1_1).wf = true) (hG1_2 : a1_2.size ≤ 140737488351232) (hC1_3 : Kd.C k37 W A1_3 l1_3.length l1_3) (hc1_3 : l1_3.length ≤ c1_3) (hG1_3 : (l1_3.length * Tryd.prog.bytesOf 37 ≤ 140737488351232 ∧ l1_3.length ≤ maxLen ∧ ∀ y ∈ l1_3, G37 y)) (hC1_4 : Kd.C k37 W A1_4 l1_4.length l1_4) (hc1_4 : l1_4.length ≤ c1_4) (hG1_4 : (l1_4.length * Tryd.prog.bytesOf 37 ≤ 140737488351232 ∧ l1_4.length ≤ maxLen ∧ ∀ y ∈ l1_4, G37 y)) (hG1_5 : (Lit.int .i64 a1_5).wf = true) (hT : Tabs W) :
    Calls Tryd.prog 4 #[.slice A0 l0.length c0, .agg #[.int .i64 a1_0, .int .i64 a1_1, .string a1_2, .slice A1_3 l1_3.length c1_3, .slice A1_4 l1_4.length c1_4, .int .i64 a1_5]] W fun e w' => e = .returned (.bool true) ∧ Below W.heap.size W w' := by
  obtain ⟨k, hk⟩ := Ev.rounds (counts_ev l0 ⟨a1_0, ⟨a1_1, a1_2, l1_3, l1_4⟩, a1_5⟩ (len27 hG0.1) (okA_of hG0.2.2) (okX_of hG1_3.2.2 hG1_4.2.2))
  exact switchyardlaw19_DeadCounts.calls k A0 c0 l0 a1_0 a1_1 a1_2 _ A1_3 c1_3 l1_3 _ A1_4 c1_4 l1_4 a1_5 true W hC0 hc0 (came 37 heap37 hC1_3 hc1_3) (came 37 heap37 hC1_4 hc1_4) hk hT
end Go.Proofs.YtknbebjphjpgpaaDoor.XD
namespace Go.Proofs.YtknbebjphjpgpaaDoor.XD
open Go.RowKit Go.Proofs.YtknbebjphjpgpaaDoorW.PrintWords Go.Proofs.YtknbebjphjpgpaaDoor.Open
theorem strs_of_reads {P : Program} {W : World} {l : List (String × DataW Unit)} {name : String} (zs : List (List UInt8)) {g : Nat} {t e : TypeId} {n : Nat} (hp : (l.all fun x => x.2.handleName?.isNone) = true) (h : laidMetH P l W) (hm : (name, .agg (zs.map fun z => .lit (.string z))) ∈ l)
    (hg : P.globalNamed name = some g) (hty : (P.globals[g]?).map (·.type) = some t) (ht : P.underlying t = some (.array n e)) (he : P.underlying e = some .string) (hce : P.cellsOf e = 1) (hct : P.cellsOf t = n) : W.var? P name = some (zs.map fun z => Value.string ⟨z.toArray⟩).toArray := by
  rw [MakeChecks.laidMetH_plain _ _ _ hp] at h
  obtain ⟨g', t', cs, fuel, p, hg', ht', hvar, hd⟩ := Lib.laidMet.reads h hm
  obtain rfl := Option.some.inj (hg.symm.trans hg')
  obtain rfl := Option.some.inj (hty.symm.trans ht')
  rw [hvar, ← cells_of_strs ht he hce hct hd]
end Go.Proofs.YtknbebjphjpgpaaDoor.XD
namespace Go.Proofs.YtknbebjphjpgpaaDoor.deadCounts
open Go.ChangeShapes Go.WideShapes Go.ChangeAt Go.RowKit
open Go.ChangeMaps (open_string shut_string)
open Go.Proofs.YtknbebjphjpgpaaDoorW.PrintWords Go.Proofs.YtknbebjphjpgpaaDoor.Open Go.Proofs.YtknbebjphjpgpaaDoor.XD
set_option linter.unusedVariables false
theorem door_met (os : Os) (args : Array Value) : laidMetH Tryd.prog Rows.deadCountsRow.laid ((World.doorLaid Tryd.prog 24 os).forCall (fun _ _ => 0) ⟨#[], args, []⟩).memory :=
  laidMetH_of_parts3 (fuel := 8) (laidMet_of_run' 8 (by kernel_rfl) (by kernel_rfl)) (by kernel_rfl) (by kernel_rfl)
theorem tabs_of {W : World} (h : laidMetH Tryd.prog Rows.deadCountsRow.laid W) : Tabs W :=
  strs_of_reads wordL (by kernel_rfl) h (by exact .head _) (g := 0) (by kernel_rfl) (by kernel_rfl) (n := 6) Tryd.underlying52 Tryd.underlying9 (by kernel_rfl) (by kernel_rfl)
theorem own : ownKnob Tryd.prog.godebug = none := by kernel_rfl
theorem laidOut : laidOutB Tryd.prog = true := by kernel_rfl
set_option maxRecDepth 100000 in
theorem lifted (os : Os) (started : os.Started) (H : Type) (enc : TypeId × Value → H) :
    ReturnsInHanded {} Tryd.checked os 4 .any (fun w args => (Rows.deadCountsSpec.pre enc Tryd.prog Tryd.f4 [] false w args ∧ laidMetH Tryd.prog Rows.deadCountsRow.laid w) ∧ sizedMet enc Tryd.prog Tryd.f4 (OpenSpec.ofChange Rows.deadCountsSpec) false w args) (Rows.deadCountsSpec.post enc Tryd.prog Tryd.f4 false true false false) := by
  refine returnsInHanded_of_change_and (C := Tryd.checked) (X := fun w _ => laidMetH Tryd.prog Rows.deadCountsRow.laid w) (fun _ _ _ hh h => h.of_heap hh) own started (by kernel_rfl) Tryd.func4
    (ChangeSpec.witness_shaped (enc := enc) (C := Tryd.checked) (os := os) (X := fun w _ => laidMetH Tryd.prog Rows.deadCountsRow.laid w) false (World.doorLaid Tryd.prog 24 os) #[.slice none 0 0, .agg #[.int .i64 0, .int .i64 0, .string ByteArray.empty, .slice none 0 0, .slice none 0 0, .int .i64 0]] 8 rfl (World.shaped_of_RefB (by kernel_rfl) (by kernel_rfl)) (by kernel_rfl) (by kernel_rfl) (by kernel_rfl) (door_met os _)) ?_
  intro W base args ds gs before hval0 hW hcnd hsz0 hL _
  have hsz : (DataW.weightsEach Tryd.prog (Tryd.f4.params.toList ++ Rows.deadCountsSpec.plain.varTypes Tryd.prog) (ds ++ gs)).all (· ≤ reachBytes) = true := hsz0
  have hval : ∀ (j : Nat) t v, Tryd.f4.params[j]? = some t → args[j]? = some v → Value.okWide Tryd.prog W .any base t v := hval0
  have hW' := hW
  obtain ⟨p, q, hA0, hV, rfl, hfz, hnd⟩ := hW
  have hA : DataW.TrodAll enc Tryd.prog W 0 (fun _ => true) true Tryd.f4.params.toList args.toList ds p := hA0
  rw [Tryd.params4] at hA hval hsz
  obtain ⟨v0, vs0, d0, ds0, p0, q0, hargs, rfl, rfl, h0, r0⟩ := trodAll_cons hA
  obtain ⟨v1, vs1, d1, ds1, p1, q1, rfl, rfl, rfl, h1, r1⟩ := trodAll_cons r0
  obtain ⟨rfl, rfl, rfl⟩ := trodAll_nil r1
  obtain rfl : args = #[v0, v1] := by cases args; simp_all
  obtain ⟨rfl, rfl⟩ := trodVars_none hV
  have k0 := h0
  have lt0 : ∀ x ∈ p0, x.block < W.heap.size := by obtain ⟨m, hm⟩ := k0; exact DataW.trod_lt m _ _ _ hm
  have wt0 := Open.arg_weights hsz (j := 0) (t := 22) (d := d0) rfl rfl
  obtain ⟨l0, hK0, hG0⟩ := Opens.arg (k := (Kd.slice 27 k27)) (fun _ => (opens_slice' Tryd.underlying22 (by kernel_rfl) (fun _ _ => (opens_k27 _)))) h0 wt0
  obtain ⟨b0, len0, cap0, rfl⟩ := okWide_slice Tryd.underlying22 (hval 0 22 v0 rfl rfl)
  obtain ⟨A0, c0, he0, hc0, hC0⟩ := hK0
  simp only [Value.cells] at he0
  injection he0 with he0 _
  injection he0 with e10 e20 e30
  subst e10 e20 e30
  have k1 := h1
  have lt1 : ∀ x ∈ p1, x.block < W.heap.size := by obtain ⟨m, hm⟩ := k1; exact DataW.trod_lt m _ _ _ hm
  have wt1 := Open.arg_weights hsz (j := 1) (t := 27) (d := d1) rfl rfl
  obtain ⟨x1, hK1, hG1⟩ := Opens.arg (k := (Kd.pair (Kd.int .i64) (Kd.pair (Kd.pair (Kd.int .i64) (Kd.pair Kd.string (Kd.pair (Kd.slice 37 k37) (Kd.slice 37 k37)))) (Kd.int .i64)))) (fun _ => (opens_struct' id id (fun _ => rfl) Tryd.underlying27 (by kernel_rfl) (fun _ _ => (OpensF.cons rfl (by kernel_rfl) (opens_int Tryd.underlying2) (OpensF.cons rfl (by kernel_rfl) (opens_struct' id id (fun _ => rfl) Tryd.underlying25 (by kernel_rfl) (fun _ _ => (OpensF.cons rfl (by kernel_rfl) (opens_int Tryd.underlying2) (OpensF.cons rfl (by kernel_rfl) (opens_string Tryd.underlying9) (OpensF.cons rfl (by kernel_rfl) (opens_slice' Tryd.underlying23 (by kernel_rfl) (fun _ _ => (opens_k37 _))) (OpensF.last rfl (by kernel_rfl) (opens_slice' Tryd.underlying23 (by kernel_rfl) (fun _ _ => (opens_k37 _))))))))) (OpensF.last rfl (by kernel_rfl) (opens_int Tryd.underlying3))))))) h1 wt1
  obtain ⟨cs1, rfl, hs1⟩ := okWide_struct Tryd.underlying27 (hval 1 27 v1 rfl rfl)
  obtain ⟨a1_0, ⟨a1_1, a1_2, l1_3, l1_4⟩, a1_5⟩ := x1
  simp only [Value.cells] at hK1
  generalize hcs1 : cs1.toList = ct1 at hK1
  obtain ⟨_, _, rfl, rfl, ⟨_, _, rfl, ⟨_, _, rfl, rfl, ⟨_, _, rfl, rfl, ⟨_, _, rfl, ⟨A1_3, c1_3, rfl, hc1_3, hC1_3⟩, ⟨A1_4, c1_4, rfl, hc1_4, hC1_4⟩⟩⟩⟩, rfl⟩⟩ := hK1
  obtain rfl : cs1 = #[.int .i64 a1_0, .int .i64 a1_1, .string a1_2, .slice A1_3 l1_3.length c1_3, .slice A1_4 l1_4.length c1_4, .int .i64 a1_5] := by cases cs1; simpa using hcs1
  clear hA0 hval0 hsz0 hsz
  have hT := tabs_of hL
  refine (counts_walk b0 cap0 l0 a1_0 a1_1 a1_2 A1_3 c1_3 l1_3 A1_4 c1_4 l1_4 a1_5 W hC0 hc0 hG0 hG1.1 hG1.2.1.1 hG1.2.1.2.1 hC1_3 hc1_3 hG1.2.1.2.2.1 hC1_4 hc1_4 hG1.2.1.2.2.2 hG1.2.2 hT).mono fun e W' ⟨he, bel⟩ => ?_
  subst he
  exact ⟨_, rfl, _, _, _, [], _, [], hW', trodAll_mk1 (shut_bool Tryd.underlying4 _), (trodAll_cons_mk (Below.trod laidOut (by kernel_rfl) (of_decide_eq_true (by kernel_rfl)) k0 bel lt0) (trodAll_cons_mk (Below.trod laidOut (by kernel_rfl) (of_decide_eq_true (by kernel_rfl)) k1 bel lt1) trodAll_mk0)), rfl, bel.frame _, fun h => by cases h⟩
theorem over : Rows.deadCountsRow.holds Tryd.pinned (OpenSpec.ofChange Rows.deadCountsSpec) :=
  OpenClaim.holds_of_wide 4 Tryd.f4 rfl rfl rfl rfl rfl rfl rfl ⟨rfl, rfl, rfl, rfl, rfl⟩ rfl rfl rfl rfl rfl (by kernel_rfl) Tryd.func4 (by kernel_rfl)
    (of_decide_eq_true (by kernel_rfl)) (by unfold Func.isWrapper; first | (rw [if_pos (by decide +kernel)]; kernel_rfl) | (rw [if_neg (by decide +kernel)]; exact ⟨rfl, rfl⟩))
    (fun os started H enc _ => lifted os started H enc)
theorem proved : Rows.DeadCountsSaid := over
theorem card_proved : Rows.DeadCountsCardSaid :=
  Claim7.holds_tied_plain_at .later [] [.data] true (true, "082a175ab3fb4a6814a4ab67dadfecd13186a509aa05699093f69527edcefca9") false proved (fun _ h => by cases h) (by kernel_rfl) (fun _ h => by cases h) deadCounts_row_tie rfl ⟨rfl, rfl⟩ (by kernel_rfl) rfl
    (fun f fn hf hfn => by
      obtain rfl : f = 4 := Option.some.inj ((show Tryd.prog.funcNamed "switchyard/switchyardlaw19.DeadCounts" = some 4 by kernel_rfl).symm.trans hf) |>.symm
      obtain rfl : fn = Tryd.f4 := (Option.some.inj (Tryd.func4.symm.trans hfn)).symm
      exact ⟨by kernel_rfl, fun j t ht => by
        rw [Tryd.params4] at ht
        have hm : t ∈ [22, 27] := by simpa using Array.mem_of_getElem? ht
        have hall : ([22, 27].all fun u => !Tryd.prog.wantsStandIn u) = true := by kernel_rfl
        exact (show Tryd.prog.wantsStandIn t = false by simpa using List.all_eq_true.1 hall t hm)⟩)
    (by kernel_rfl)
end Go.Proofs.YtknbebjphjpgpaaDoor.deadCounts
namespace Go.Proofs.YtknbebjphjpgpaaDoor
/-- The card, under a short name, for the claim. -/
theorem deadCounts_holds : Rows.DeadCountsCardSaid := deadCounts.card_proved
end Go.Proofs.YtknbebjphjpgpaaDoor
