/- What functions of the program and of Go's library answer: each as a plain Lean function, with its walk (laid by wip/xprint.py, a program of this session, over the kit's print). Conditions: those that each statement names. -/
import Derived.Test.YtdmmgeggljlceaaDoorXV0
import Derived.Test.YtdmmgeggljlceaaDoorXV1
import Derived.Test.YtdmmgeggljlceaaDoorXV12
namespace Go.Proofs.YtdmmgeggljlceaaDoor.XV
open Go.RowKit Go.Proofs.YtdmmgeggljlceaaDoorW.PrintWords Go.Proofs.YtdmmgeggljlceaaDoorW.PrintLast Go.Proofs.YtdmmgeggljlceaaDoorW.PrintMore
attribute [local go_sem] max2_int min2_int max_two min_two max_three min_three max_four min_four   -- for this text's walks alone
set_option linter.unusedVariables false
set_option linter.unusedSimpArgs false

/-! ### switchyardref06_Print: function 18 -/
mutual
def switchyardref06_Print.j0 : Nat → Bool → Int → Int → ByteArray → List Int → Option (ByteArray)
  | 0, _, _, _, _, _ => none
  | k + 1, x22, x173000, x173001, x173002, x173003 => if x22 = true then (some (⟨#[116, 114, 117, 101]⟩ : ByteArray)) else (if x173000 = 2 then (some (⟨#[102, 97, 108, 115, 101]⟩ : ByteArray)) else (if x173000 = 4 then (if 1 + x173002.size ≤ 9223372036854775807 then (some ((⟨#[39]⟩ : ByteArray) ++ x173002)) else (none)) else (if x173000 = 3 then (if ([] : List Int).length < 140737488355328 then (switchyardref06_Print.l0 k (([] : List Int) ++ [34]) 0 x173000 x173001 x173002 x173003) else (none)) else (if x173000 = 5 then (switchyardref06_Print.l1 k (⟨#[91]⟩ : ByteArray) x173003 (x173003.length : Int) 0) else (some (⟨#[110, 111, 110, 101]⟩ : ByteArray))))))
def switchyardref06_Print.l0 : Nat → List Int → Int → Int → Int → ByteArray → List Int → Option (ByteArray)
  | 0, _, _, _, _, _, _ => none
  | k + 1, x3, x4, x173000, x173001, x173002, x173003 => if x4 < (x173002.size : Int) then (if 0 ≤ x4 then (if (bt x173002 x4) < 32 then (switchyardref06_Print.j2 k x3 x4 (bt x173002 x4) true x173000 x173001 x173002 x173003) else (switchyardref06_Print.j2 k x3 x4 (bt x173002 x4) (decide ((bt x173002 x4) > 126)) x173000 x173001 x173002 x173003)) else (none)) else (if x3.length < 140737488355328 then (some (strOfNums (x3 ++ [34]))) else (none))
def switchyardref06_Print.j2 : Nat → List Int → Int → Int → Bool → Int → Int → ByteArray → List Int → Option (ByteArray)
  | 0, _, _, _, _, _, _, _, _ => none
  | k + 1, x3, x4, x5, x54, x173000, x173001, x173002, x173003 => if x54 = true then (if x3.length < 140737488355328 then ((some (x3 ++ [92] : List Int)).bind fun y180 => (if y180.length < 140737488355328 then ((some (y180 ++ [120] : List Int)).bind fun y183 => (if 0 ≤ ((Int.tdiv x5 16) % 256) then (if ((Int.tdiv x5 16) % 256) < 16 then (if y183.length < 140737488355328 then ((some (y183 ++ [bt (⟨#[48, 49, 50, 51, 52, 53, 54, 55, 56, 57, 97, 98, 99, 100, 101, 102]⟩ : ByteArray) ((Int.tdiv x5 16) % 256)] : List Int)).bind fun y186 => (if 0 ≤ (Int.tmod x5 16) then (if (Int.tmod x5 16) < 16 then (if y186.length < 140737488355328 then (switchyardref06_Print.l0 k (y186 ++ [bt (⟨#[48, 49, 50, 51, 52, 53, 54, 55, 56, 57, 97, 98, 99, 100, 101, 102]⟩ : ByteArray) (Int.tmod x5 16)]) (wrap64 (x4 + 1)) x173000 x173001 x173002 x173003) else (none)) else (none)) else (none))) else (none)) else (none)) else (none))) else (none))) else (none)) else (if x5 = 34 then (if x3.length < 140737488355328 then ((some (x3 ++ [92] : List Int)).bind fun y192 => (if y192.length < 140737488355328 then (switchyardref06_Print.l0 k (y192 ++ [x5]) (wrap64 (x4 + 1)) x173000 x173001 x173002 x173003) else (none))) else (none)) else (if x5 = 92 then (if x3.length < 140737488355328 then ((some (x3 ++ [92] : List Int)).bind fun y198 => (if y198.length < 140737488355328 then (switchyardref06_Print.l0 k (y198 ++ [x5]) (wrap64 (x4 + 1)) x173000 x173001 x173002 x173003) else (none))) else (none)) else (if x3.length < 140737488355328 then (switchyardref06_Print.l0 k (x3 ++ [x5]) (wrap64 (x4 + 1)) x173000 x173001 x173002 x173003) else (none))))
def switchyardref06_Print.l1 : Nat → ByteArray → List Int → Int → Int → Option (ByteArray)
  | 0, _, _, _, _ => none
  | k + 1, x6, x91, x92, x93 => if x93 < x92 then (if 0 ≤ x93 then (if x93 < (x91.length : Int) then (if x93 > 0 then (if x6.size + 2 ≤ 9223372036854775807 then ((switchyardref06_Decimal.f (rd x91 x93)).bind fun t208 => (if (x6 ++ (⟨#[44, 32]⟩ : ByteArray)).size + t208.size ≤ 9223372036854775807 then (switchyardref06_Print.l1 k ((x6 ++ (⟨#[44, 32]⟩ : ByteArray)) ++ t208) x91 x92 (wrap64 (x93 + 1))) else (none))) else (none)) else ((switchyardref06_Decimal.f (rd x91 x93)).bind fun t209 => (if x6.size + t209.size ≤ 9223372036854775807 then (switchyardref06_Print.l1 k (x6 ++ t209) x91 x92 (wrap64 (x93 + 1))) else (none)))) else (none)) else (none)) else (if x6.size + 1 ≤ 9223372036854775807 then (some (x6 ++ (⟨#[93]⟩ : ByteArray))) else (none))
end
def switchyardref06_Print.f (k : Nat) (a0_0 : Int) (a0_1 : Int) (a0_2 : ByteArray) (l0_3 : List Int) : Option (ByteArray) := if a0_0 = 1 then ((switchyardref06_Decimal.f a0_1).bind fun t173 => (some t173)) else (if a0_0 = 2 then (switchyardref06_Print.j0 k (a0_1 == 1) a0_0 a0_1 a0_2 l0_3) else (switchyardref06_Print.j0 k false a0_0 a0_1 a0_2 l0_3))
theorem switchyardref06_Print.mono_l : ∀ k, (∀ y0 y1 y2 y3 y4, LeO (switchyardref06_Print.j0 k y0 y1 y2 y3 y4) (switchyardref06_Print.j0 (k + 1) y0 y1 y2 y3 y4)) ∧ (∀ y0 y1 y2 y3 y4 y5, LeO (switchyardref06_Print.l0 k y0 y1 y2 y3 y4 y5) (switchyardref06_Print.l0 (k + 1) y0 y1 y2 y3 y4 y5)) ∧ (∀ y0 y1 y2 y3 y4 y5 y6 y7, LeO (switchyardref06_Print.j2 k y0 y1 y2 y3 y4 y5 y6 y7) (switchyardref06_Print.j2 (k + 1) y0 y1 y2 y3 y4 y5 y6 y7)) ∧ (∀ y0 y1 y2 y3, LeO (switchyardref06_Print.l1 k y0 y1 y2 y3) (switchyardref06_Print.l1 (k + 1) y0 y1 y2 y3))
  | 0 => ⟨fun _ _ _ _ _ r h => by simp [switchyardref06_Print.j0] at h, fun _ _ _ _ _ _ r h => by simp [switchyardref06_Print.l0] at h, fun _ _ _ _ _ _ _ _ r h => by simp [switchyardref06_Print.j2] at h, fun _ _ _ _ r h => by simp [switchyardref06_Print.l1] at h⟩
  | k + 1 => by
    obtain ⟨ih0, ih1, ih2, ih3⟩ := switchyardref06_Print.mono_l k
    refine ⟨?_, ?_, ?_, ?_⟩
    · intro y0 y1 y2 y3 y4
      unfold switchyardref06_Print.j0
      repeat' first
      | (with_reducible exact ih0 _ _ _ _ _)
      | (with_reducible exact ih1 _ _ _ _ _ _)
      | (with_reducible exact ih2 _ _ _ _ _ _ _ _)
      | (with_reducible exact ih3 _ _ _ _)
      | (with_reducible exact LeO.refl _)
      | (with_reducible exact LeO.none _)
      | (with_reducible refine LeO.ite ?_ ?_)
      | (with_reducible refine LeO.bind ?_ (fun _ => ?_))
      | exact ih0 _ _ _ _ _
      | exact ih1 _ _ _ _ _ _
      | exact ih2 _ _ _ _ _ _ _ _
      | exact ih3 _ _ _ _
      | exact LeO.none _
      | refine LeO.ite ?_ ?_
      | refine LeO.bind ?_ (fun _ => ?_)
    · intro y0 y1 y2 y3 y4 y5
      unfold switchyardref06_Print.l0
      repeat' first
      | (with_reducible exact ih0 _ _ _ _ _)
      | (with_reducible exact ih1 _ _ _ _ _ _)
      | (with_reducible exact ih2 _ _ _ _ _ _ _ _)
      | (with_reducible exact ih3 _ _ _ _)
      | (with_reducible exact LeO.refl _)
      | (with_reducible exact LeO.none _)
      | (with_reducible refine LeO.ite ?_ ?_)
      | (with_reducible refine LeO.bind ?_ (fun _ => ?_))
      | exact ih0 _ _ _ _ _
      | exact ih1 _ _ _ _ _ _
      | exact ih2 _ _ _ _ _ _ _ _
      | exact ih3 _ _ _ _
      | exact LeO.none _
      | refine LeO.ite ?_ ?_
      | refine LeO.bind ?_ (fun _ => ?_)
    · intro y0 y1 y2 y3 y4 y5 y6 y7
      unfold switchyardref06_Print.j2
      repeat' first
      | (with_reducible exact ih0 _ _ _ _ _)
      | (with_reducible exact ih1 _ _ _ _ _ _)
      | (with_reducible exact ih2 _ _ _ _ _ _ _ _)
      | (with_reducible exact ih3 _ _ _ _)
      | (with_reducible exact LeO.refl _)
      | (with_reducible exact LeO.none _)
      | (with_reducible refine LeO.ite ?_ ?_)
      | (with_reducible refine LeO.bind ?_ (fun _ => ?_))
      | exact ih0 _ _ _ _ _
      | exact ih1 _ _ _ _ _ _
      | exact ih2 _ _ _ _ _ _ _ _
      | exact ih3 _ _ _ _
      | exact LeO.none _
      | refine LeO.ite ?_ ?_
      | refine LeO.bind ?_ (fun _ => ?_)
    · intro y0 y1 y2 y3
      unfold switchyardref06_Print.l1
      repeat' first
      | (with_reducible exact ih0 _ _ _ _ _)
      | (with_reducible exact ih1 _ _ _ _ _ _)
      | (with_reducible exact ih2 _ _ _ _ _ _ _ _)
      | (with_reducible exact ih3 _ _ _ _)
      | (with_reducible exact LeO.refl _)
      | (with_reducible exact LeO.none _)
      | (with_reducible refine LeO.ite ?_ ?_)
      | (with_reducible refine LeO.bind ?_ (fun _ => ?_))
      | exact ih0 _ _ _ _ _
      | exact ih1 _ _ _ _ _ _
      | exact ih2 _ _ _ _ _ _ _ _
      | exact ih3 _ _ _ _
      | exact LeO.none _
      | refine LeO.ite ?_ ?_
      | refine LeO.bind ?_ (fun _ => ?_)
theorem switchyardref06_Print.mono : ∀ a0 a1 a2 a3 k, LeO (switchyardref06_Print.f k a0 a1 a2 a3) (switchyardref06_Print.f (k + 1) a0 a1 a2 a3) := by
  intro a0 a1 a2 a3 k
  obtain ⟨ih0, ih1, ih2, ih3⟩ := switchyardref06_Print.mono_l k
  unfold switchyardref06_Print.f
  repeat' first
      | (with_reducible exact ih0 _ _ _ _ _)
      | (with_reducible exact ih1 _ _ _ _ _ _)
      | (with_reducible exact ih2 _ _ _ _ _ _ _ _)
      | (with_reducible exact ih3 _ _ _ _)
      | (with_reducible exact LeO.refl _)
      | (with_reducible exact LeO.none _)
      | (with_reducible refine LeO.ite ?_ ?_)
      | (with_reducible refine LeO.bind ?_ (fun _ => ?_))
      | exact ih0 _ _ _ _ _
      | exact ih1 _ _ _ _ _ _
      | exact ih2 _ _ _ _ _ _ _ _
      | exact ih3 _ _ _ _
      | exact LeO.none _
      | refine LeO.ite ?_ ?_
      | refine LeO.bind ?_ (fun _ => ?_)
set_option maxHeartbeats 2000000 in
set_option maxRecDepth 100000 in
theorem switchyardref06_Print.calls (k : Nat) (a0_0 : Int) (a0_1 : Int) (a0_2 : ByteArray) (A0_3 : Option Addr) (c0_3 : Nat) (l0_3 : List Int) (r : ByteArray) (w : World) (hr0_3 : Kd.C (Kd.int .i64) w A0_3 l0_3.length l0_3) (hc0_3 : l0_3.length ≤ c0_3) (h : switchyardref06_Print.f k a0_0 a0_1 a0_2 l0_3 = some r) :
    Calls Tryd.prog 18 #[.agg #[.int .i64 a0_0, .int .i64 a0_1, .string a0_2, .slice A0_3 l0_3.length c0_3]] w fun e w' => e = .returned (.string r) ∧ Below w.heap.size w w' := by
  have hu24 := Tryd.underlying24
  have HR0_3 := Aside0.mk hr0_3
  have HC0_3 := Aside0.mk hc0_3
  clear hr0_3 hc0_3
  have HB := Aside0.mk (Below.refl w.heap.size w)
  have H : (if a0_0 = 1 then ((switchyardref06_Decimal.f a0_1).bind fun t173 => (some t173)) else (if a0_0 = 2 then (switchyardref06_Print.j0 k (a0_1 == 1) a0_0 a0_1 a0_2 l0_3) else (switchyardref06_Print.j0 k false a0_0 a0_1 a0_2 l0_3))) = some r := h
  clear h
  by_cases c2 : a0_0 = 1
  · rw [if_pos c2] at H
    have c2b0 : (a0_0 == 1) = true := beq_iff_eq.mpr c2
    have c2b1 : (a0_0 != 1) = false := bne_eq_false_iff_eq.mpr c2
    clear c2
    replace H := Option.bind_eq_some_iff.mp H
    obtain ⟨t173, A30, H⟩ := H
    replace H : (some t173) = some r := H
    have A3 := Aside0.mk A30
    clear A30
    obtain rfl := Option.some.inj H
    go_enter Tryd.func18, Tryd.ntmps18
    go_wp2_with (first | ((with_reducible refine gate_dst (N := 1) rfl ?_); refine box_event ?hg (N := 1) ?hd (cs := #[.int .i64 a0_0, .int .i64 a0_1, .string a0_2, .slice A0_3 l0_3.length c0_3]) (t := 24) ?hr ?_; (case hd => rfl); (case hg => rfl); (case hr => first | (go_simp; done) | (go_simp; rfl)); intro gb172 hg w4 hbox hb; have n0_ := Aside0.mk (below_step (by repeat (first | (with_reducible first | exact HB.out | apply below_alloc | apply pw_below_drewN | apply below_drew1) | exact HB.out)) hb); have n1_ := Aside0.mk (hbox); have n2_ := Aside0.mk ((by rw [hg]; exact (below_size (by repeat (first | (with_reducible first | exact HB.out | apply below_alloc | apply pw_below_drewN | apply below_drew1) | exact HB.out))) : w.heap.size ≤ gb172)); have n3_ := Aside0.mk ((by rw [hg]; exact (below_size (by repeat (first | (with_reducible first | exact HB.out | apply below_alloc | apply pw_below_drewN | apply below_drew1) | exact HB.out))) : w.heap.size ≤ gb172)); clear HB; have HB := n0_; have BK172 := n1_; have GW172 := n2_; have GE172 := n3_; clear n0_ n1_ n2_ n3_; clear hb hbox hg; have hcz5_0 : w4.cell? ⟨gb172, 0, none⟩ = some (.int .i64 a0_0) := (blk_cell BK172.out 0).trans rfl; have hcz5_1 : w4.cell? ⟨gb172, 1, none⟩ = some (.int .i64 a0_1) := (blk_cell BK172.out 1).trans rfl; have hcz5_2 : w4.cell? ⟨gb172, 2, none⟩ = some (.string a0_2) := (blk_cell BK172.out 2).trans rfl; have hcz5_3 : w4.cell? ⟨gb172, 3, none⟩ = some (.slice A0_3 l0_3.length c0_3) := (blk_cell BK172.out 3).trans rfl; have hfz5_0 := blk_frozen BK172.out 0; have hfz5_1 := blk_frozen BK172.out 1; have hfz5_2 := blk_frozen BK172.out 2; have hfz5_3 := blk_frozen BK172.out 3) | ((with_reducible refine gate_callee (f := 32) rfl ?_); refine goesL_ (some 14) rfl rfl Tryd.func32 (by kernel_rfl) rfl #[.int .i64 a0_1] rfl (by (try simp only [List.map_toArray, List.map_cons, List.map_nil]); first | done | rfl | (simp only [List.length_drop, List.length_take]; rfl)) ?_; (with_reducible refine (switchyardref06_Decimal.calls a0_1 t173 _ A3.out).mono ?_); rintro e w6 ⟨rfl, hb⟩; refine ⟨_, rfl, ?_⟩; have n0_ := Aside0.mk (blk_below (g := gb172) (o := .cells #[.int .i64 a0_0, .int .i64 a0_1, .string a0_2, .slice A0_3 l0_3.length c0_3] 24 (0, 0)) (by (with_reducible repeat (first | refine blk_drewN ?_ _ | refine blk_drew ?_ | refine blk_alloc ?_ _)); exact BK172.out) hb); have n1_ := Aside0.mk (below_step (by repeat (first | (with_reducible first | exact HB.out | apply below_alloc | apply pw_below_drewN | apply below_drew1 | refine below_set ?_ GE172.out) | exact HB.out)) hb); clear BK172; clear HB; have BK172 := n0_; have HB := n1_; clear n0_ n1_; (try clear hb); (try clear hb2); (try clear hk); (try clear hi)))
    go_ret
    exact ⟨by first | rfl | (simp [errW_none, errW_some] <;> rfl) | (simp [*, errW_none, errW_some] <;> rfl), by repeat (first | (with_reducible first | exact HB.out | apply below_alloc | apply pw_below_drewN | apply below_drew1 | refine below_set ?_ GE172.out) | exact HB.out)⟩
  · rw [if_neg c2] at H
    have c2b0 : (a0_0 == 1) = false := beq_eq_false_iff_ne.mpr c2
    have c2b1 : (a0_0 != 1) = true := bne_iff_ne.mpr c2
    have HC7 := Aside0.mk H
    clear H
    go_enter Tryd.func18, Tryd.ntmps18
    go_upto_region 3 with (first | ((with_reducible refine gate_dst (N := 1) rfl ?_); refine box_event ?hg (N := 1) ?hd (cs := #[.int .i64 a0_0, .int .i64 a0_1, .string a0_2, .slice A0_3 l0_3.length c0_3]) (t := 24) ?hr ?_; (case hd => rfl); (case hg => rfl); (case hr => first | (go_simp; done) | (go_simp; rfl)); intro gb172 hg w8 hbox hb; have n0_ := Aside0.mk (below_step (by repeat (first | (with_reducible first | exact HB.out | apply below_alloc | apply pw_below_drewN | apply below_drew1) | exact HB.out)) hb); have n1_ := Aside0.mk (hbox); have n2_ := Aside0.mk ((by rw [hg]; exact (below_size (by repeat (first | (with_reducible first | exact HB.out | apply below_alloc | apply pw_below_drewN | apply below_drew1) | exact HB.out))) : w.heap.size ≤ gb172)); have n3_ := Aside0.mk ((by rw [hg]; exact (below_size (by repeat (first | (with_reducible first | exact HB.out | apply below_alloc | apply pw_below_drewN | apply below_drew1) | exact HB.out))) : w.heap.size ≤ gb172)); clear HB; have HB := n0_; have BK172 := n1_; have GW172 := n2_; have GE172 := n3_; clear n0_ n1_ n2_ n3_; clear hb hbox hg; have hcz9_0 : w8.cell? ⟨gb172, 0, none⟩ = some (.int .i64 a0_0) := (blk_cell BK172.out 0).trans rfl; have hcz9_1 : w8.cell? ⟨gb172, 1, none⟩ = some (.int .i64 a0_1) := (blk_cell BK172.out 1).trans rfl; have hcz9_2 : w8.cell? ⟨gb172, 2, none⟩ = some (.string a0_2) := (blk_cell BK172.out 2).trans rfl; have hcz9_3 : w8.cell? ⟨gb172, 3, none⟩ = some (.slice A0_3 l0_3.length c0_3) := (blk_cell BK172.out 3).trans rfl; have hfz9_0 := blk_frozen BK172.out 0; have hfz9_1 := blk_frozen BK172.out 1; have hfz9_2 := blk_frozen BK172.out 2; have hfz9_3 := blk_frozen BK172.out 3))
    (try simp only [Act.put, List.setIfInBounds_toArray, List.set_cons_zero, List.set_cons_succ])
    go_cut [22] (fun v22 wc => ∃ (kq : Nat) (x22_6 : Bool), v22 = .bool x22_6 ∧ Aside0 (switchyardref06_Print.j0 kq x22_6 a0_0 a0_1 a0_2 l0_3 = some r) ∧ Aside0 (kq ≤ k) ∧ Aside0 (wc.heap[gb172]? = some (.cells #[.int .i64 a0_0, .int .i64 a0_1, .string a0_2, (.slice A0_3 l0_3.length c0_3)] 24 (0, 0))) ∧ Aside0 (Below w.heap.size w wc))
    case first =>
      have H := HC7.out
      clear HC7
      by_cases c10 : a0_0 = 2
      · rw [if_pos c10] at H
        have c10b0 : (a0_0 == 2) = true := beq_iff_eq.mpr c10
        have c10b1 : (a0_0 != 2) = false := bne_eq_false_iff_eq.mpr c10
        clear c10
        (first | rw [c10b0] | (simp only [i64_w, i32_w]; rw [c10b0]) | skip)
        have H' := Aside0.mk H
        clear H
        have hcz11_0 : w8.cell? ⟨gb172, 0, none⟩ = some (.int .i64 a0_0) := (blk_cell BK172.out 0).trans rfl
        have hcz11_1 : w8.cell? ⟨gb172, 1, none⟩ = some (.int .i64 a0_1) := (blk_cell BK172.out 1).trans rfl
        have hcz11_2 : w8.cell? ⟨gb172, 2, none⟩ = some (.string a0_2) := (blk_cell BK172.out 2).trans rfl
        have hcz11_3 : w8.cell? ⟨gb172, 3, none⟩ = some (.slice A0_3 l0_3.length c0_3) := (blk_cell BK172.out 3).trans rfl
        have hfz11_0 := blk_frozen BK172.out 0
        have hfz11_1 := blk_frozen BK172.out 1
        have hfz11_2 := blk_frozen BK172.out 2
        have hfz11_3 := blk_frozen BK172.out 3
        go_wp2
        go_meet
        case rel => exact ⟨_, ((a0_1 == 1)), (by first | rfl | (simp; done) | (simp [*]; done)), H', ⟨by first | omega | exact Nat.le_refl _⟩, ⟨by (with_reducible repeat (first | refine blk_drewN ?_ _ | refine blk_drew ?_ | refine blk_alloc ?_ _)); exact BK172.out⟩, ⟨by repeat (first | (with_reducible first | exact HB.out | apply below_alloc | apply pw_below_drewN | apply below_drew1 | refine below_set ?_ GE172.out) | exact HB.out)⟩⟩
      · rw [if_neg c10] at H
        have c10b0 : (a0_0 == 2) = false := beq_eq_false_iff_ne.mpr c10
        have c10b1 : (a0_0 != 2) = true := bne_iff_ne.mpr c10
        (first | rw [c10b0] | (simp only [i64_w, i32_w]; rw [c10b0]) | skip)
        have H' := Aside0.mk H
        clear H
        have hcz12_0 : w8.cell? ⟨gb172, 0, none⟩ = some (.int .i64 a0_0) := (blk_cell BK172.out 0).trans rfl
        have hcz12_1 : w8.cell? ⟨gb172, 1, none⟩ = some (.int .i64 a0_1) := (blk_cell BK172.out 1).trans rfl
        have hcz12_2 : w8.cell? ⟨gb172, 2, none⟩ = some (.string a0_2) := (blk_cell BK172.out 2).trans rfl
        have hcz12_3 : w8.cell? ⟨gb172, 3, none⟩ = some (.slice A0_3 l0_3.length c0_3) := (blk_cell BK172.out 3).trans rfl
        have hfz12_0 := blk_frozen BK172.out 0
        have hfz12_1 := blk_frozen BK172.out 1
        have hfz12_2 := blk_frozen BK172.out 2
        have hfz12_3 := blk_frozen BK172.out 3
        go_wp2
        go_meet
        case rel => exact ⟨_, (false), (by first | rfl | (simp; done) | (simp [*]; done)), H', ⟨by first | omega | exact Nat.le_refl _⟩, ⟨by (with_reducible repeat (first | refine blk_drewN ?_ _ | refine blk_drew ?_ | refine blk_alloc ?_ _)); exact BK172.out⟩, ⟨by repeat (first | (with_reducible first | exact HB.out | apply below_alloc | apply pw_below_drewN | apply below_drew1 | refine below_set ?_ GE172.out) | exact HB.out)⟩⟩
    case rest =>
      clear HC7
      try clear c1
      try clear c2
      try clear c2b0
      try clear c2b1
      try clear p2
      try clear c3
      try clear c10
      try clear c10b0
      try clear c10b1
      try clear hcz11_0
      try clear hcz11_1
      try clear hcz11_2
      try clear hcz11_3
      try clear hcz12_0
      try clear hcz12_1
      try clear hcz12_2
      try clear hcz12_3
      try clear hcz5_0
      try clear hcz5_1
      try clear hcz5_2
      try clear hcz5_3
      try clear hcz9_0
      try clear hcz9_1
      try clear hcz9_2
      try clear hcz9_3
      try clear hfz11_0
      try clear hfz11_1
      try clear hfz11_2
      try clear hfz11_3
      try clear hfz12_0
      try clear hfz12_1
      try clear hfz12_2
      try clear hfz12_3
      try clear hfz5_0
      try clear hfz5_1
      try clear hfz5_2
      try clear hfz5_3
      try clear hfz9_0
      try clear hfz9_1
      try clear hfz9_2
      try clear hfz9_3
      obtain ⟨kq, x22_6, rfl, HA, HJ6, BK172, HB⟩ := hcut
      cases kq with
      | zero => exact absurd HA.out (by simp [switchyardref06_Print.j0])
      | succ kj6 =>
        have H := HA.out
        clear HA
        simp only [switchyardref06_Print.j0] at H
        by_cases c13 : x22_6 = true
        · subst c13
          have H1 : (some (⟨#[116, 114, 117, 101]⟩ : ByteArray)) = some r := by rw [if_pos rfl] at H; exact H
          clear H
          have H := H1
          clear H1
          obtain rfl := Option.some.inj H
          go_wp2
          go_ret
          exact ⟨by first | rfl | (simp [errW_none, errW_some] <;> rfl) | (simp [*, errW_none, errW_some] <;> rfl), by repeat (first | (with_reducible first | exact HB.out | apply below_alloc | apply pw_below_drewN | apply below_drew1 | refine below_set ?_ GE172.out) | exact HB.out)⟩
        · replace c13 := Bool.eq_false_iff.mpr c13
          subst c13
          have H1 : (if a0_0 = 2 then (some (⟨#[102, 97, 108, 115, 101]⟩ : ByteArray)) else (if a0_0 = 4 then (if 1 + a0_2.size ≤ 9223372036854775807 then (some ((⟨#[39]⟩ : ByteArray) ++ a0_2)) else (none)) else (if a0_0 = 3 then (if ([] : List Int).length < 140737488355328 then (switchyardref06_Print.l0 kj6 (([] : List Int) ++ [34]) 0 a0_0 a0_1 a0_2 l0_3) else (none)) else (if a0_0 = 5 then (switchyardref06_Print.l1 kj6 (⟨#[91]⟩ : ByteArray) l0_3 (l0_3.length : Int) 0) else (some (⟨#[110, 111, 110, 101]⟩ : ByteArray)))))) = some r := by rw [if_neg (show ¬ (false = true) by decide)] at H; exact H
          clear H
          have H := H1
          clear H1
          by_cases c14 : a0_0 = 2
          · rw [if_pos c14] at H
            have c14b0 : (a0_0 == 2) = true := beq_iff_eq.mpr c14
            have c14b1 : (a0_0 != 2) = false := bne_eq_false_iff_eq.mpr c14
            clear c14
            obtain rfl := Option.some.inj H
            have hcz15_0 : wc.cell? ⟨gb172, 0, none⟩ = some (.int .i64 a0_0) := (blk_cell BK172.out 0).trans rfl
            have hcz15_1 : wc.cell? ⟨gb172, 1, none⟩ = some (.int .i64 a0_1) := (blk_cell BK172.out 1).trans rfl
            have hcz15_2 : wc.cell? ⟨gb172, 2, none⟩ = some (.string a0_2) := (blk_cell BK172.out 2).trans rfl
            have hcz15_3 : wc.cell? ⟨gb172, 3, none⟩ = some (.slice A0_3 l0_3.length c0_3) := (blk_cell BK172.out 3).trans rfl
            have hfz15_0 := blk_frozen BK172.out 0
            have hfz15_1 := blk_frozen BK172.out 1
            have hfz15_2 := blk_frozen BK172.out 2
            have hfz15_3 := blk_frozen BK172.out 3
            go_wp2
            go_ret
            exact ⟨by first | rfl | (simp [errW_none, errW_some] <;> rfl) | (simp [*, errW_none, errW_some] <;> rfl), by repeat (first | (with_reducible first | exact HB.out | apply below_alloc | apply pw_below_drewN | apply below_drew1 | refine below_set ?_ GE172.out) | exact HB.out)⟩
          · rw [if_neg c14] at H
            have c14b0 : (a0_0 == 2) = false := beq_eq_false_iff_ne.mpr c14
            have c14b1 : (a0_0 != 2) = true := bne_iff_ne.mpr c14
            by_cases c16 : a0_0 = 4
            · rw [if_pos c16] at H
              have c16b0 : (a0_0 == 4) = true := beq_iff_eq.mpr c16
              have c16b1 : (a0_0 != 4) = false := bne_eq_false_iff_eq.mpr c16
              clear c16
              by_cases c17 : 1 + a0_2.size ≤ 9223372036854775807
              · rw [if_pos c17] at H
                have c17b0 := eq_true c17
                have c17b1 : decide (1 + a0_2.size ≤ 9223372036854775807) = true := decide_eq_true c17
                try have c17b2 : (9223372036854775807 < 1 + a0_2.size) = False := eq_false (Nat.not_lt.2 c17)
                try (have c17s := c17; simp only [ByteArray.size_append, bsize_mk, List.size_toArray, List.length_cons, List.length_nil, Nat.reduceAdd, Nat.zero_add] at c17s)
                try have c17s2 := eq_false (Nat.not_lt.2 c17s)
                obtain rfl := Option.some.inj H
                have hcz18_0 : wc.cell? ⟨gb172, 0, none⟩ = some (.int .i64 a0_0) := (blk_cell BK172.out 0).trans rfl
                have hcz18_1 : wc.cell? ⟨gb172, 1, none⟩ = some (.int .i64 a0_1) := (blk_cell BK172.out 1).trans rfl
                have hcz18_2 : wc.cell? ⟨gb172, 2, none⟩ = some (.string a0_2) := (blk_cell BK172.out 2).trans rfl
                have hcz18_3 : wc.cell? ⟨gb172, 3, none⟩ = some (.slice A0_3 l0_3.length c0_3) := (blk_cell BK172.out 3).trans rfl
                have hfz18_0 := blk_frozen BK172.out 0
                have hfz18_1 := blk_frozen BK172.out 1
                have hfz18_2 := blk_frozen BK172.out 2
                have hfz18_3 := blk_frozen BK172.out 3
                go_wp2
                go_ret
                exact ⟨by first | rfl | (simp [errW_none, errW_some] <;> rfl) | (simp [*, errW_none, errW_some] <;> rfl), by repeat (first | (with_reducible first | exact HB.out | apply below_alloc | apply pw_below_drewN | apply below_drew1 | refine below_set ?_ GE172.out) | exact HB.out)⟩
              · rw [if_neg c17] at H
                exact absurd H (by simp)
            · rw [if_neg c16] at H
              have c16b0 : (a0_0 == 4) = false := beq_eq_false_iff_ne.mpr c16
              have c16b1 : (a0_0 != 4) = true := bne_iff_ne.mpr c16
              by_cases c19 : a0_0 = 3
              · rw [if_pos c19] at H
                have c19b0 : (a0_0 == 3) = true := beq_iff_eq.mpr c19
                have c19b1 : (a0_0 != 3) = false := bne_eq_false_iff_eq.mpr c19
                clear c19
                by_cases c20 : ([] : List Int).length < 140737488355328
                · rw [if_pos c20] at H
                  have LMc20 := Aside0.mk c20
                  clear c20
                  obtain ⟨y174, hy174⟩ : ∃ y_ : List Int, y_ = (([] : List Int) ++ [34]) := ⟨_, rfl⟩
                  replace H : (switchyardref06_Print.l0 kj6 y174 0 a0_0 a0_1 a0_2 l0_3) = some r := by first | (rw [hy174]; with_reducible exact H) | (have H2_ := (Option.bind_some _ _).symm.trans H; rw [hy174]; with_reducible exact H2_) | (have H2_ := (Option.bind_some _ _).symm.trans H; with_reducible exact H2_) | with_reducible exact H | (rw [hy174]; exact H) | exact H
                  have Ny174 := Aside0.mk hy174
                  clear hy174
                  have H' := Aside0.mk H
                  clear H
                  have hcz21_0 : wc.cell? ⟨gb172, 0, none⟩ = some (.int .i64 a0_0) := (blk_cell BK172.out 0).trans rfl
                  have hcz21_1 : wc.cell? ⟨gb172, 1, none⟩ = some (.int .i64 a0_1) := (blk_cell BK172.out 1).trans rfl
                  have hcz21_2 : wc.cell? ⟨gb172, 2, none⟩ = some (.string a0_2) := (blk_cell BK172.out 2).trans rfl
                  have hcz21_3 : wc.cell? ⟨gb172, 3, none⟩ = some (.slice A0_3 l0_3.length c0_3) := (blk_cell BK172.out 3).trans rfl
                  have hfz21_0 := blk_frozen BK172.out 0
                  have hfz21_1 := blk_frozen BK172.out 1
                  have hfz21_2 := blk_frozen BK172.out 2
                  have hfz21_3 := blk_frozen BK172.out 3
                  go_wp2_with (first | ((with_reducible refine gate_builtin (b := .append) (xs := #[.tmp 35, .tmp 36]) rfl ?_); at_builtin; refine Kd.R_append (Kd.int .u8) (w0 := w) w.heap.size rfl (.tmp 35) (.tmp 36) 52 5 (.int .u8 0) 1 rfl Tryd.underlying52 info5 rfl (by decide) (by omega) (.slice none 0 0) ([] : List Int) 34 [.int .u8 34] (fun _ => True) (fun _ => False) rfl rfl ?aP (fun _ hk => hk.elim) ?aF ?aO ?aB ?aS ?aL ?_; (case aP => exact rfl); (case aB => exact (by repeat (first | (with_reducible first | exact HB.out | apply below_alloc | apply pw_below_drewN | apply below_drew1 | refine below_set ?_ GE172.out) | exact HB.out))); (case aF => exact (fun _ _ => trivial)); (case aO => exact ((Kd.R_nil _ _ _ _ (fun _ => True)))); (case aS => exact (below_size (by repeat (first | (with_reducible first | exact HB.out | apply below_alloc | apply pw_below_drewN | apply below_drew1 | refine below_set ?_ GE172.out) | exact HB.out)))); (case aL => have := LMc20.out; omega); intro v175 w22 ho hb hg hat; rw [← Ny174.out] at ho; have n0_ := Aside0.mk (blk_grown (g := gb172) (o := .cells #[.int .i64 a0_0, .int .i64 a0_1, .string a0_2, .slice A0_3 l0_3.length c0_3] 24 (0, 0)) (by (with_reducible repeat (first | refine blk_drewN ?_ _ | refine blk_drew ?_ | refine blk_alloc ?_ _)); exact BK172.out) hg (by simp [Value.ownBlock])); have n1_ := Aside0.mk (hb); have n2_ := Aside0.mk (ho); clear BK172; clear HB; have BK172 := n0_; have HB := n1_; have HO176 := n2_; clear n0_ n1_ n2_; clear ho hb hg hat))
                  go_loopg [3, 4] kj6 (fun kq v3 v4 w' => ∃ (x3_2 : List Int) (x4_2 : Int), v4 = .int .i64 x4_2 ∧ Aside0 (switchyardref06_Print.l0 kq x3_2 x4_2 a0_0 a0_1 a0_2 l0_3 = some r) ∧ Aside0 (kq ≤ kj6) ∧ Aside0 (Kd.R (Kd.int .u8) 5 w' w.heap.size (fun _ => True) v3 x3_2) ∧ Aside0 (w'.heap[gb172]? = some (.cells #[.int .i64 a0_0, .int .i64 a0_1, .string a0_2, (.slice A0_3 l0_3.length c0_3)] 24 (0, 0))) ∧ Aside0 (Below w.heap.size w w'))
                  case atStart => exact ⟨(y174), (0), (by first | rfl | (simp; done) | (simp [*]; done)), H', ⟨Nat.le_refl _⟩, ⟨by (with_reducible repeat (first | apply Kd.R_alloc | apply Kd.R_drewN | apply Kd.R_drew)); exact HO176.out⟩, ⟨by (with_reducible repeat (first | refine blk_drewN ?_ _ | refine blk_drew ?_ | refine blk_alloc ?_ _)); exact BK172.out⟩, ⟨by repeat (first | (with_reducible first | exact HB.out | apply below_alloc | apply pw_below_drewN | apply below_drew1 | refine below_set ?_ GE172.out) | exact HB.out)⟩⟩
                  case round =>
                    clear H'
                    try clear c1
                    try clear c2
                    try clear c2b0
                    try clear c2b1
                    try clear p2
                    try clear c3
                    try clear c10
                    try clear c10b0
                    try clear c10b1
                    try clear c13
                    try clear c14
                    try clear c14b0
                    try clear c14b1
                    try clear c16
                    try clear c16b0
                    try clear c16b1
                    try clear c17
                    try clear c17b0
                    try clear c17b1
                    try clear c17b2
                    try clear c18
                    try clear c19
                    try clear c19b0
                    try clear c19b1
                    try clear c20
                    try clear hcz11_0
                    try clear hcz11_1
                    try clear hcz11_2
                    try clear hcz11_3
                    try clear hcz12_0
                    try clear hcz12_1
                    try clear hcz12_2
                    try clear hcz12_3
                    try clear hcz15_0
                    try clear hcz15_1
                    try clear hcz15_2
                    try clear hcz15_3
                    try clear hcz18_0
                    try clear hcz18_1
                    try clear hcz18_2
                    try clear hcz18_3
                    try clear hcz21_0
                    try clear hcz21_1
                    try clear hcz21_2
                    try clear hcz21_3
                    try clear hcz5_0
                    try clear hcz5_1
                    try clear hcz5_2
                    try clear hcz5_3
                    try clear hcz9_0
                    try clear hcz9_1
                    try clear hcz9_2
                    try clear hcz9_3
                    try clear hfz11_0
                    try clear hfz11_1
                    try clear hfz11_2
                    try clear hfz11_3
                    try clear hfz12_0
                    try clear hfz12_1
                    try clear hfz12_2
                    try clear hfz12_3
                    try clear hfz15_0
                    try clear hfz15_1
                    try clear hfz15_2
                    try clear hfz15_3
                    try clear hfz18_0
                    try clear hfz18_1
                    try clear hfz18_2
                    try clear hfz18_3
                    try clear hfz21_0
                    try clear hfz21_1
                    try clear hfz21_2
                    try clear hfz21_3
                    try clear hfz5_0
                    try clear hfz5_1
                    try clear hfz5_2
                    try clear hfz5_3
                    try clear hfz9_0
                    try clear hfz9_1
                    try clear hfz9_2
                    try clear hfz9_3
                    try clear p2
                    obtain ⟨x3_2, x4_2, rfl, HA, HK2, HO_3, BK172, HB⟩ := hrel
                    cases gk with
                    | zero => exact absurd HA.out (by simp [switchyardref06_Print.l0])
                    | succ k2 =>
                      have H := HA.out
                      clear HA
                      simp only [switchyardref06_Print.l0] at H
                      by_cases c23 : x4_2 < (a0_2.size : Int)
                      · rw [if_pos c23] at H
                        have c23b0 : decide (x4_2 < (a0_2.size : Int)) = true := decide_eq_true c23
                        clear c23
                        by_cases c24 : 0 ≤ x4_2
                        · rw [if_pos c24] at H
                          have c24b0 : decide (0 ≤ x4_2) = true := decide_eq_true c24
                          clear c24
                          have HC26 := Aside0.mk H
                          clear H
                          have hcz27_0 : wr.cell? ⟨gb172, 0, none⟩ = some (.int .i64 a0_0) := (blk_cell BK172.out 0).trans rfl
                          have hcz27_1 : wr.cell? ⟨gb172, 1, none⟩ = some (.int .i64 a0_1) := (blk_cell BK172.out 1).trans rfl
                          have hcz27_2 : wr.cell? ⟨gb172, 2, none⟩ = some (.string a0_2) := (blk_cell BK172.out 2).trans rfl
                          have hcz27_3 : wr.cell? ⟨gb172, 3, none⟩ = some (.slice A0_3 l0_3.length c0_3) := (blk_cell BK172.out 3).trans rfl
                          have hfz27_0 := blk_frozen BK172.out 0
                          have hfz27_1 := blk_frozen BK172.out 1
                          have hfz27_2 := blk_frozen BK172.out 2
                          have hfz27_3 := blk_frozen BK172.out 3
                          have p25 : 0 ≤ (x4_2 : Int) := of_decide_eq_true (by first | (with_reducible assumption) | assumption)
                          have q25 : x4_2 < (a0_2.size : Int) := of_decide_eq_true (by first | (with_reducible assumption) | assumption)
                          have hx25 := bt_at a0_2 x4_2
                          replace p25 := eq_true p25
                          replace q25 := eq_true q25
                          go_upto_region 16 with (fail)
                          go_cut [54] (fun v54 wc => ∃ (kq : Nat) (x54_25 : Bool), v54 = .bool x54_25 ∧ Aside0 (switchyardref06_Print.j2 kq x3_2 x4_2 (bt a0_2 x4_2) x54_25 a0_0 a0_1 a0_2 l0_3 = some r) ∧ Aside0 (kq ≤ k2) ∧ Aside0 (Kd.R (Kd.int .u8) 5 wc w.heap.size (fun _ => True) u3 x3_2) ∧ Aside0 (wc.heap[gb172]? = some (.cells #[.int .i64 a0_0, .int .i64 a0_1, .string a0_2, (.slice A0_3 l0_3.length c0_3)] 24 (0, 0))) ∧ Aside0 (Below w.heap.size w wc))
                          case first =>
                            have H := HC26.out
                            clear HC26
                            by_cases c28 : (bt a0_2 x4_2) < 32
                            · rw [if_pos c28] at H
                              have c28b0 : decide ((bt a0_2 x4_2) < 32) = true := decide_eq_true c28
                              clear c28
                              (first | rw [c28b0] | (simp only [i64_w, i32_w]; rw [c28b0]) | skip)
                              have H' := Aside0.mk H
                              clear H
                              go_wp2
                              go_meet
                              case rel => exact ⟨_, (true), (by first | rfl | (simp; done) | (simp [*]; done)), H', ⟨by have := HJ6.out; have := HK2.out; first | omega | exact Nat.le_refl _⟩, ⟨by (with_reducible repeat (first | apply Kd.R_alloc | apply Kd.R_drewN | apply Kd.R_drew)); exact HO_3.out⟩, ⟨by (with_reducible repeat (first | refine blk_drewN ?_ _ | refine blk_drew ?_ | refine blk_alloc ?_ _)); exact BK172.out⟩, ⟨by repeat (first | (with_reducible first | exact HB.out | apply below_alloc | apply pw_below_drewN | apply below_drew1 | refine below_set ?_ GE172.out) | exact HB.out)⟩⟩
                            · rw [if_neg c28] at H
                              have c28b0 : decide ((bt a0_2 x4_2) < 32) = false := decide_eq_false c28
                              clear c28
                              (first | rw [c28b0] | (simp only [i64_w, i32_w]; rw [c28b0]) | skip)
                              have H' := Aside0.mk H
                              clear H
                              go_wp2
                              go_meet
                              case rel => exact ⟨_, (decide ((bt a0_2 x4_2) > 126)), (by first | rfl | (simp; done) | (simp [*]; done)), H', ⟨by have := HJ6.out; have := HK2.out; first | omega | exact Nat.le_refl _⟩, ⟨by (with_reducible repeat (first | apply Kd.R_alloc | apply Kd.R_drewN | apply Kd.R_drew)); exact HO_3.out⟩, ⟨by (with_reducible repeat (first | refine blk_drewN ?_ _ | refine blk_drew ?_ | refine blk_alloc ?_ _)); exact BK172.out⟩, ⟨by repeat (first | (with_reducible first | exact HB.out | apply below_alloc | apply pw_below_drewN | apply below_drew1 | refine below_set ?_ GE172.out) | exact HB.out)⟩⟩
                          case rest =>
                            clear HC26
                            try clear c1
                            try clear c2
                            try clear c2b0
                            try clear c2b1
                            try clear p2
                            try clear q2
                            try clear hx2
                            try clear c3
                            try clear c10
                            try clear c10b0
                            try clear c10b1
                            try clear c13
                            try clear c14
                            try clear c14b0
                            try clear c14b1
                            try clear c16
                            try clear c16b0
                            try clear c16b1
                            try clear c17
                            try clear c17b0
                            try clear c17b1
                            try clear c17b2
                            try clear c18
                            try clear c19
                            try clear c19b0
                            try clear c19b1
                            try clear c20
                            try clear c23
                            try clear c23b0
                            try clear c24
                            try clear c24b0
                            try clear p25
                            try clear q25
                            try clear hx25
                            try clear c28
                            try clear c28b0
                            try clear hcz11_0
                            try clear hcz11_1
                            try clear hcz11_2
                            try clear hcz11_3
                            try clear hcz12_0
                            try clear hcz12_1
                            try clear hcz12_2
                            try clear hcz12_3
                            try clear hcz15_0
                            try clear hcz15_1
                            try clear hcz15_2
                            try clear hcz15_3
                            try clear hcz18_0
                            try clear hcz18_1
                            try clear hcz18_2
                            try clear hcz18_3
                            try clear hcz21_0
                            try clear hcz21_1
                            try clear hcz21_2
                            try clear hcz21_3
                            try clear hcz27_0
                            try clear hcz27_1
                            try clear hcz27_2
                            try clear hcz27_3
                            try clear hcz5_0
                            try clear hcz5_1
                            try clear hcz5_2
                            try clear hcz5_3
                            try clear hcz9_0
                            try clear hcz9_1
                            try clear hcz9_2
                            try clear hcz9_3
                            try clear hfz11_0
                            try clear hfz11_1
                            try clear hfz11_2
                            try clear hfz11_3
                            try clear hfz12_0
                            try clear hfz12_1
                            try clear hfz12_2
                            try clear hfz12_3
                            try clear hfz15_0
                            try clear hfz15_1
                            try clear hfz15_2
                            try clear hfz15_3
                            try clear hfz18_0
                            try clear hfz18_1
                            try clear hfz18_2
                            try clear hfz18_3
                            try clear hfz21_0
                            try clear hfz21_1
                            try clear hfz21_2
                            try clear hfz21_3
                            try clear hfz27_0
                            try clear hfz27_1
                            try clear hfz27_2
                            try clear hfz27_3
                            try clear hfz5_0
                            try clear hfz5_1
                            try clear hfz5_2
                            try clear hfz5_3
                            try clear hfz9_0
                            try clear hfz9_1
                            try clear hfz9_2
                            try clear hfz9_3
                            try clear p2
                            try clear p25
                            try clear q25
                            obtain ⟨kq, x54_25, rfl, HA, HJ25, HO_3, BK172, HB⟩ := hcut
                            cases kq with
                            | zero => exact absurd HA.out (by simp [switchyardref06_Print.j2])
                            | succ kj25 =>
                              have H := HA.out
                              clear HA
                              simp only [switchyardref06_Print.j2] at H
                              by_cases c29 : x54_25 = true
                              · subst c29
                                have H1 : (if x3_2.length < 140737488355328 then ((some (x3_2 ++ [92] : List Int)).bind fun y180 => (if y180.length < 140737488355328 then ((some (y180 ++ [120] : List Int)).bind fun y183 => (if 0 ≤ ((Int.tdiv (bt a0_2 x4_2) 16) % 256) then (if ((Int.tdiv (bt a0_2 x4_2) 16) % 256) < 16 then (if y183.length < 140737488355328 then ((some (y183 ++ [bt (⟨#[48, 49, 50, 51, 52, 53, 54, 55, 56, 57, 97, 98, 99, 100, 101, 102]⟩ : ByteArray) ((Int.tdiv (bt a0_2 x4_2) 16) % 256)] : List Int)).bind fun y186 => (if 0 ≤ (Int.tmod (bt a0_2 x4_2) 16) then (if (Int.tmod (bt a0_2 x4_2) 16) < 16 then (if y186.length < 140737488355328 then (switchyardref06_Print.l0 kj25 (y186 ++ [bt (⟨#[48, 49, 50, 51, 52, 53, 54, 55, 56, 57, 97, 98, 99, 100, 101, 102]⟩ : ByteArray) (Int.tmod (bt a0_2 x4_2) 16)]) (wrap64 (x4_2 + 1)) a0_0 a0_1 a0_2 l0_3) else (none)) else (none)) else (none))) else (none)) else (none)) else (none))) else (none))) else (none)) = some r := by rw [if_pos rfl] at H; exact H
                                clear H
                                have H := H1
                                clear H1
                                by_cases c30 : x3_2.length < 140737488355328
                                · rw [if_pos c30] at H
                                  have LMc30 := Aside0.mk c30
                                  clear c30
                                  obtain ⟨y180, hy180⟩ : ∃ y_ : List Int, y_ = (x3_2 ++ [92]) := ⟨_, rfl⟩
                                  replace H : (if y180.length < 140737488355328 then ((some (y180 ++ [120] : List Int)).bind fun y183 => (if 0 ≤ ((Int.tdiv (bt a0_2 x4_2) 16) % 256) then (if ((Int.tdiv (bt a0_2 x4_2) 16) % 256) < 16 then (if y183.length < 140737488355328 then ((some (y183 ++ [bt (⟨#[48, 49, 50, 51, 52, 53, 54, 55, 56, 57, 97, 98, 99, 100, 101, 102]⟩ : ByteArray) ((Int.tdiv (bt a0_2 x4_2) 16) % 256)] : List Int)).bind fun y186 => (if 0 ≤ (Int.tmod (bt a0_2 x4_2) 16) then (if (Int.tmod (bt a0_2 x4_2) 16) < 16 then (if y186.length < 140737488355328 then (switchyardref06_Print.l0 kj25 (y186 ++ [bt (⟨#[48, 49, 50, 51, 52, 53, 54, 55, 56, 57, 97, 98, 99, 100, 101, 102]⟩ : ByteArray) (Int.tmod (bt a0_2 x4_2) 16)]) (wrap64 (x4_2 + 1)) a0_0 a0_1 a0_2 l0_3) else (none)) else (none)) else (none))) else (none)) else (none)) else (none))) else (none)) = some r := by first | (rw [hy180]; with_reducible exact H) | (have H2_ := (Option.bind_some _ _).symm.trans H; rw [hy180]; with_reducible exact H2_) | (have H2_ := (Option.bind_some _ _).symm.trans H; with_reducible exact H2_) | with_reducible exact H | (rw [hy180]; exact H) | exact H
                                  have Ny180 := Aside0.mk hy180
                                  clear hy180
                                  by_cases c31 : y180.length < 140737488355328
                                  · rw [if_pos c31] at H
                                    have LMc31 := Aside0.mk c31
                                    clear c31
                                    obtain ⟨y183, hy183⟩ : ∃ y_ : List Int, y_ = (y180 ++ [120]) := ⟨_, rfl⟩
                                    replace H : (if 0 ≤ ((Int.tdiv (bt a0_2 x4_2) 16) % 256) then (if ((Int.tdiv (bt a0_2 x4_2) 16) % 256) < 16 then (if y183.length < 140737488355328 then ((some (y183 ++ [bt (⟨#[48, 49, 50, 51, 52, 53, 54, 55, 56, 57, 97, 98, 99, 100, 101, 102]⟩ : ByteArray) ((Int.tdiv (bt a0_2 x4_2) 16) % 256)] : List Int)).bind fun y186 => (if 0 ≤ (Int.tmod (bt a0_2 x4_2) 16) then (if (Int.tmod (bt a0_2 x4_2) 16) < 16 then (if y186.length < 140737488355328 then (switchyardref06_Print.l0 kj25 (y186 ++ [bt (⟨#[48, 49, 50, 51, 52, 53, 54, 55, 56, 57, 97, 98, 99, 100, 101, 102]⟩ : ByteArray) (Int.tmod (bt a0_2 x4_2) 16)]) (wrap64 (x4_2 + 1)) a0_0 a0_1 a0_2 l0_3) else (none)) else (none)) else (none))) else (none)) else (none)) else (none)) = some r := by first | (rw [hy183]; with_reducible exact H) | (have H2_ := (Option.bind_some _ _).symm.trans H; rw [hy183]; with_reducible exact H2_) | (have H2_ := (Option.bind_some _ _).symm.trans H; with_reducible exact H2_) | with_reducible exact H | (rw [hy183]; exact H) | exact H
                                    have Ny183 := Aside0.mk hy183
                                    clear hy183
                                    obtain ⟨ji32, hji32⟩ : ∃ j_ : Int, ((Int.tdiv (bt a0_2 x4_2) 16) % 256) = j_ := ⟨_, rfl⟩
                                    replace H : (if 0 ≤ (ji32) then (if (ji32) < 16 then (if y183.length < 140737488355328 then ((some (y183 ++ [bt (⟨#[48, 49, 50, 51, 52, 53, 54, 55, 56, 57, 97, 98, 99, 100, 101, 102]⟩ : ByteArray) (ji32)] : List Int)).bind fun y186 => (if 0 ≤ (Int.tmod (bt a0_2 x4_2) 16) then (if (Int.tmod (bt a0_2 x4_2) 16) < 16 then (if y186.length < 140737488355328 then (switchyardref06_Print.l0 kj25 (y186 ++ [bt (⟨#[48, 49, 50, 51, 52, 53, 54, 55, 56, 57, 97, 98, 99, 100, 101, 102]⟩ : ByteArray) (Int.tmod (bt a0_2 x4_2) 16)]) (wrap64 (x4_2 + 1)) a0_0 a0_1 a0_2 l0_3) else (none)) else (none)) else (none))) else (none)) else (none)) else (none)) = some r := by first | (rw [hji32] at H; exact H) | (simp only [hji32] at H ⊢; exact H)
                                    by_cases c33 : 0 ≤ (ji32)
                                    · rw [if_pos c33] at H
                                      have c33b0 : decide (0 ≤ (ji32)) = true := decide_eq_true c33
                                      clear c33
                                      by_cases c34 : (ji32) < 16
                                      · rw [if_pos c34] at H
                                        have c34b0 : decide ((ji32) < 16) = true := decide_eq_true c34
                                        clear c34
                                        by_cases c36 : y183.length < 140737488355328
                                        · rw [if_pos c36] at H
                                          have LMc36 := Aside0.mk c36
                                          clear c36
                                          obtain ⟨y186, hy186⟩ : ∃ y_ : List Int, y_ = (y183 ++ [bt (⟨#[48, 49, 50, 51, 52, 53, 54, 55, 56, 57, 97, 98, 99, 100, 101, 102]⟩ : ByteArray) (ji32)]) := ⟨_, rfl⟩
                                          replace H : (if 0 ≤ (Int.tmod (bt a0_2 x4_2) 16) then (if (Int.tmod (bt a0_2 x4_2) 16) < 16 then (if y186.length < 140737488355328 then (switchyardref06_Print.l0 kj25 (y186 ++ [bt (⟨#[48, 49, 50, 51, 52, 53, 54, 55, 56, 57, 97, 98, 99, 100, 101, 102]⟩ : ByteArray) (Int.tmod (bt a0_2 x4_2) 16)]) (wrap64 (x4_2 + 1)) a0_0 a0_1 a0_2 l0_3) else (none)) else (none)) else (none)) = some r := by first | (rw [hy186]; with_reducible exact H) | (have H2_ := (Option.bind_some _ _).symm.trans H; rw [hy186]; with_reducible exact H2_) | (have H2_ := (Option.bind_some _ _).symm.trans H; with_reducible exact H2_) | with_reducible exact H | (rw [hy186]; exact H) | exact H
                                          have Ny186 := Aside0.mk hy186
                                          clear hy186
                                          obtain ⟨ji37, hji37⟩ : ∃ j_ : Int, (Int.tmod (bt a0_2 x4_2) 16) = j_ := ⟨_, rfl⟩
                                          replace H : (if 0 ≤ (ji37) then (if (ji37) < 16 then (if y186.length < 140737488355328 then (switchyardref06_Print.l0 kj25 (y186 ++ [bt (⟨#[48, 49, 50, 51, 52, 53, 54, 55, 56, 57, 97, 98, 99, 100, 101, 102]⟩ : ByteArray) (ji37)]) (wrap64 (x4_2 + 1)) a0_0 a0_1 a0_2 l0_3) else (none)) else (none)) else (none)) = some r := by first | (rw [hji37] at H; exact H) | (simp only [hji37] at H ⊢; exact H)
                                          by_cases c38 : 0 ≤ (ji37)
                                          · rw [if_pos c38] at H
                                            have c38b0 : decide (0 ≤ (ji37)) = true := decide_eq_true c38
                                            clear c38
                                            by_cases c39 : (ji37) < 16
                                            · rw [if_pos c39] at H
                                              have c39b0 : decide ((ji37) < 16) = true := decide_eq_true c39
                                              clear c39
                                              by_cases c41 : y186.length < 140737488355328
                                              · rw [if_pos c41] at H
                                                have LMc41 := Aside0.mk c41
                                                clear c41
                                                obtain ⟨y189, hy189⟩ : ∃ y_ : List Int, y_ = (y186 ++ [bt (⟨#[48, 49, 50, 51, 52, 53, 54, 55, 56, 57, 97, 98, 99, 100, 101, 102]⟩ : ByteArray) (ji37)]) := ⟨_, rfl⟩
                                                replace H : (switchyardref06_Print.l0 kj25 y189 (wrap64 (x4_2 + 1)) a0_0 a0_1 a0_2 l0_3) = some r := by first | (rw [hy189]; with_reducible exact H) | (have H2_ := (Option.bind_some _ _).symm.trans H; rw [hy189]; with_reducible exact H2_) | (have H2_ := (Option.bind_some _ _).symm.trans H; with_reducible exact H2_) | with_reducible exact H | (rw [hy189]; exact H) | exact H
                                                have Ny189 := Aside0.mk hy189
                                                clear hy189
                                                have H' := Aside0.mk H
                                                clear H
                                                go_wp2_with (first | ((with_reducible refine gate_builtin (b := .append) (xs := #[.tmp 55, .tmp 56]) rfl ?_); at_builtin; refine Kd.R_append (Kd.int .u8) (w0 := w) w.heap.size rfl (.tmp 55) (.tmp 56) 52 5 (.int .u8 0) 1 rfl Tryd.underlying52 info5 rfl (by decide) (by omega) u3 x3_2 92 [.int .u8 92] (fun _ => True) (fun _ => False) rfl rfl ?aP (fun _ hk => hk.elim) ?aF ?aO ?aB ?aS ?aL ?_; (case aP => exact rfl); (case aB => exact (by repeat (first | (with_reducible first | exact HB.out | apply below_alloc | apply pw_below_drewN | apply below_drew1 | refine below_set ?_ GE172.out) | exact HB.out))); (case aF => exact (fun _ _ => trivial)); (case aO => exact (by (with_reducible repeat (first | apply Kd.R_alloc | apply Kd.R_drewN | apply Kd.R_drew)); exact HO_3.out)); (case aS => exact (below_size (by repeat (first | (with_reducible first | exact HB.out | apply below_alloc | apply pw_below_drewN | apply below_drew1 | refine below_set ?_ GE172.out) | exact HB.out)))); (case aL => have := LMc30.out; omega); intro v181 w42 ho hb hg hat; rw [← Ny180.out] at ho; have n0_ := Aside0.mk (blk_grown (g := gb172) (o := .cells #[.int .i64 a0_0, .int .i64 a0_1, .string a0_2, .slice A0_3 l0_3.length c0_3] 24 (0, 0)) (by (with_reducible repeat (first | refine blk_drewN ?_ _ | refine blk_drew ?_ | refine blk_alloc ?_ _)); exact BK172.out) hg (Kd.R_ne HO_3.out BK172.out (by decide))); have n1_ := Aside0.mk (hb); have n2_ := Aside0.mk (ho); clear BK172; clear HB; clear HO_3; have BK172 := n0_; have HB := n1_; have HO182 := n2_; clear n0_ n1_ n2_; clear ho hb hg hat) | ((with_reducible refine gate_builtin (b := .append) (xs := #[.tmp 58, .tmp 59]) rfl ?_); at_builtin; refine Kd.R_append (Kd.int .u8) (w0 := w) w.heap.size rfl (.tmp 58) (.tmp 59) 52 5 (.int .u8 0) 1 rfl Tryd.underlying52 info5 rfl (by decide) (by omega) v181 y180 120 [.int .u8 120] (fun _ => True) (fun _ => False) rfl rfl ?aP (fun _ hk => hk.elim) ?aF ?aO ?aB ?aS ?aL ?_; (case aP => exact rfl); (case aB => exact (by repeat (first | (with_reducible first | exact HB.out | apply below_alloc | apply pw_below_drewN | apply below_drew1 | refine below_set ?_ GE172.out) | exact HB.out))); (case aF => exact (fun _ _ => trivial)); (case aO => exact (by (with_reducible repeat (first | apply Kd.R_alloc | apply Kd.R_drewN | apply Kd.R_drew)); exact HO182.out)); (case aS => exact (below_size (by repeat (first | (with_reducible first | exact HB.out | apply below_alloc | apply pw_below_drewN | apply below_drew1 | refine below_set ?_ GE172.out) | exact HB.out)))); (case aL => have := LMc31.out; omega); intro v184 w43 ho hb hg hat; rw [← Ny183.out] at ho; have n0_ := Aside0.mk (blk_grown (g := gb172) (o := .cells #[.int .i64 a0_0, .int .i64 a0_1, .string a0_2, .slice A0_3 l0_3.length c0_3] 24 (0, 0)) (by (with_reducible repeat (first | refine blk_drewN ?_ _ | refine blk_drew ?_ | refine blk_alloc ?_ _)); exact BK172.out) hg (Kd.R_ne HO182.out BK172.out (by decide))); have n1_ := Aside0.mk (hb); have n2_ := Aside0.mk (ho); clear BK172; clear HB; clear HO182; have BK172 := n0_; have HB := n1_; have HO185 := n2_; clear n0_ n1_ n2_; clear ho hb hg hat; have p35 : 0 ≤ ((ji32) : Int) := of_decide_eq_true (by first | (with_reducible assumption) | assumption); have q35 : (ji32) < (16 : Int) := of_decide_eq_true (by first | (with_reducible assumption) | assumption); have hx35 := bt_at (⟨#[48, 49, 50, 51, 52, 53, 54, 55, 56, 57, 97, 98, 99, 100, 101, 102]⟩ : ByteArray) (ji32); replace p35 := eq_true p35; replace q35 := eq_true q35) | ((with_reducible refine gate_builtin (b := .append) (xs := #[.tmp 61, .tmp 65]) rfl ?_); at_builtin; refine Kd.R_append (Kd.int .u8) (w0 := w) w.heap.size rfl (.tmp 61) (.tmp 65) 52 5 (.int .u8 0) 1 rfl Tryd.underlying52 info5 rfl (by decide) (by omega) v184 y183 (bt (⟨#[48, 49, 50, 51, 52, 53, 54, 55, 56, 57, 97, 98, 99, 100, 101, 102]⟩ : ByteArray) (ji32)) [.int .u8 (bt (⟨#[48, 49, 50, 51, 52, 53, 54, 55, 56, 57, 97, 98, 99, 100, 101, 102]⟩ : ByteArray) (ji32))] (fun _ => True) (fun _ => False) rfl rfl ?aP (fun _ hk => hk.elim) ?aF ?aO ?aB ?aS ?aL ?_; (case aP => exact rfl); (case aB => exact (by repeat (first | (with_reducible first | exact HB.out | apply below_alloc | apply pw_below_drewN | apply below_drew1 | refine below_set ?_ GE172.out) | exact HB.out))); (case aF => exact (fun _ _ => trivial)); (case aO => exact (by (with_reducible repeat (first | apply Kd.R_alloc | apply Kd.R_drewN | apply Kd.R_drew)); exact HO185.out)); (case aS => exact (below_size (by repeat (first | (with_reducible first | exact HB.out | apply below_alloc | apply pw_below_drewN | apply below_drew1 | refine below_set ?_ GE172.out) | exact HB.out)))); (case aL => have := LMc36.out; omega); intro v187 w44 ho hb hg hat; rw [← Ny186.out] at ho; have n0_ := Aside0.mk (blk_grown (g := gb172) (o := .cells #[.int .i64 a0_0, .int .i64 a0_1, .string a0_2, .slice A0_3 l0_3.length c0_3] 24 (0, 0)) (by (with_reducible repeat (first | refine blk_drewN ?_ _ | refine blk_drew ?_ | refine blk_alloc ?_ _)); exact BK172.out) hg (Kd.R_ne HO185.out BK172.out (by decide))); have n1_ := Aside0.mk (hb); have n2_ := Aside0.mk (ho); clear BK172; clear HB; clear HO185; have BK172 := n0_; have HB := n1_; have HO188 := n2_; clear n0_ n1_ n2_; clear ho hb hg hat; have p40 : 0 ≤ ((ji37) : Int) := of_decide_eq_true (by first | (with_reducible assumption) | assumption); have q40 : (ji37) < (16 : Int) := of_decide_eq_true (by first | (with_reducible assumption) | assumption); have hx40 := bt_at (⟨#[48, 49, 50, 51, 52, 53, 54, 55, 56, 57, 97, 98, 99, 100, 101, 102]⟩ : ByteArray) (ji37); replace p40 := eq_true p40; replace q40 := eq_true q40) | ((with_reducible refine gate_builtin (b := .append) (xs := #[.tmp 79, .tmp 81]) rfl ?_); at_builtin; refine Kd.R_append (Kd.int .u8) (w0 := w) w.heap.size rfl (.tmp 79) (.tmp 81) 52 5 (.int .u8 0) 1 rfl Tryd.underlying52 info5 rfl (by decide) (by omega) v187 y186 (bt (⟨#[48, 49, 50, 51, 52, 53, 54, 55, 56, 57, 97, 98, 99, 100, 101, 102]⟩ : ByteArray) (ji37)) [.int .u8 (bt (⟨#[48, 49, 50, 51, 52, 53, 54, 55, 56, 57, 97, 98, 99, 100, 101, 102]⟩ : ByteArray) (ji37))] (fun _ => True) (fun _ => False) rfl rfl ?aP (fun _ hk => hk.elim) ?aF ?aO ?aB ?aS ?aL ?_; (case aP => exact rfl); (case aB => exact (by repeat (first | (with_reducible first | exact HB.out | apply below_alloc | apply pw_below_drewN | apply below_drew1 | refine below_set ?_ GE172.out) | exact HB.out))); (case aF => exact (fun _ _ => trivial)); (case aO => exact (by (with_reducible repeat (first | apply Kd.R_alloc | apply Kd.R_drewN | apply Kd.R_drew)); exact HO188.out)); (case aS => exact (below_size (by repeat (first | (with_reducible first | exact HB.out | apply below_alloc | apply pw_below_drewN | apply below_drew1 | refine below_set ?_ GE172.out) | exact HB.out)))); (case aL => have := LMc41.out; omega); intro v190 w45 ho hb hg hat; rw [← Ny189.out] at ho; have n0_ := Aside0.mk (blk_grown (g := gb172) (o := .cells #[.int .i64 a0_0, .int .i64 a0_1, .string a0_2, .slice A0_3 l0_3.length c0_3] 24 (0, 0)) (by (with_reducible repeat (first | refine blk_drewN ?_ _ | refine blk_drew ?_ | refine blk_alloc ?_ _)); exact BK172.out) hg (Kd.R_ne HO188.out BK172.out (by decide))); have n1_ := Aside0.mk (hb); have n2_ := Aside0.mk (ho); clear BK172; clear HB; clear HO188; have BK172 := n0_; have HB := n1_; have HO191 := n2_; clear n0_ n1_ n2_; clear ho hb hg hat))
                                                go_roundg kj25
                                                case measure => have := HJ6.out; have := HK2.out; have := HJ25.out; omega
                                                case rel => exact ⟨(y189), (wrap64 (x4_2 + 1)), (by first | rfl | (simp; done) | (simp [*]; done)), H', ⟨by have := HJ6.out; have := HK2.out; have := HJ25.out; omega⟩, ⟨by (with_reducible repeat (first | apply Kd.R_alloc | apply Kd.R_drewN | apply Kd.R_drew)); exact HO191.out⟩, ⟨by (with_reducible repeat (first | refine blk_drewN ?_ _ | refine blk_drew ?_ | refine blk_alloc ?_ _)); exact BK172.out⟩, ⟨by repeat (first | (with_reducible first | exact HB.out | apply below_alloc | apply pw_below_drewN | apply below_drew1 | refine below_set ?_ GE172.out) | exact HB.out)⟩⟩
                                              · rw [if_neg c41] at H
                                                exact absurd H (by simp)
                                            · rw [if_neg c39] at H
                                              exact absurd H (by simp)
                                          · rw [if_neg c38] at H
                                            exact absurd H (by simp)
                                        · rw [if_neg c36] at H
                                          exact absurd H (by simp)
                                      · rw [if_neg c34] at H
                                        exact absurd H (by simp)
                                    · rw [if_neg c33] at H
                                      exact absurd H (by simp)
                                  · rw [if_neg c31] at H
                                    exact absurd H (by simp)
                                · rw [if_neg c30] at H
                                  exact absurd H (by simp)
                              · replace c29 := Bool.eq_false_iff.mpr c29
                                subst c29
                                have H1 : (if (bt a0_2 x4_2) = 34 then (if x3_2.length < 140737488355328 then ((some (x3_2 ++ [92] : List Int)).bind fun y192 => (if y192.length < 140737488355328 then (switchyardref06_Print.l0 kj25 (y192 ++ [(bt a0_2 x4_2)]) (wrap64 (x4_2 + 1)) a0_0 a0_1 a0_2 l0_3) else (none))) else (none)) else (if (bt a0_2 x4_2) = 92 then (if x3_2.length < 140737488355328 then ((some (x3_2 ++ [92] : List Int)).bind fun y198 => (if y198.length < 140737488355328 then (switchyardref06_Print.l0 kj25 (y198 ++ [(bt a0_2 x4_2)]) (wrap64 (x4_2 + 1)) a0_0 a0_1 a0_2 l0_3) else (none))) else (none)) else (if x3_2.length < 140737488355328 then (switchyardref06_Print.l0 kj25 (x3_2 ++ [(bt a0_2 x4_2)]) (wrap64 (x4_2 + 1)) a0_0 a0_1 a0_2 l0_3) else (none)))) = some r := by rw [if_neg (show ¬ (false = true) by decide)] at H; exact H
                                clear H
                                have H := H1
                                clear H1
                                by_cases c46 : (bt a0_2 x4_2) = 34
                                · rw [if_pos c46] at H
                                  have c46b0 : ((bt a0_2 x4_2) == 34) = true := beq_iff_eq.mpr c46
                                  have c46b1 : ((bt a0_2 x4_2) != 34) = false := bne_eq_false_iff_eq.mpr c46
                                  clear c46
                                  by_cases c47 : x3_2.length < 140737488355328
                                  · rw [if_pos c47] at H
                                    have LMc47 := Aside0.mk c47
                                    clear c47
                                    obtain ⟨y192, hy192⟩ : ∃ y_ : List Int, y_ = (x3_2 ++ [92]) := ⟨_, rfl⟩
                                    replace H : (if y192.length < 140737488355328 then (switchyardref06_Print.l0 kj25 (y192 ++ [(bt a0_2 x4_2)]) (wrap64 (x4_2 + 1)) a0_0 a0_1 a0_2 l0_3) else (none)) = some r := by first | (rw [hy192]; with_reducible exact H) | (have H2_ := (Option.bind_some _ _).symm.trans H; rw [hy192]; with_reducible exact H2_) | (have H2_ := (Option.bind_some _ _).symm.trans H; with_reducible exact H2_) | with_reducible exact H | (rw [hy192]; exact H) | exact H
                                    have Ny192 := Aside0.mk hy192
                                    clear hy192
                                    by_cases c48 : y192.length < 140737488355328
                                    · rw [if_pos c48] at H
                                      have LMc48 := Aside0.mk c48
                                      clear c48
                                      obtain ⟨y195, hy195⟩ : ∃ y_ : List Int, y_ = (y192 ++ [(bt a0_2 x4_2)]) := ⟨_, rfl⟩
                                      replace H : (switchyardref06_Print.l0 kj25 y195 (wrap64 (x4_2 + 1)) a0_0 a0_1 a0_2 l0_3) = some r := by first | (rw [hy195]; with_reducible exact H) | (have H2_ := (Option.bind_some _ _).symm.trans H; rw [hy195]; with_reducible exact H2_) | (have H2_ := (Option.bind_some _ _).symm.trans H; with_reducible exact H2_) | with_reducible exact H | (rw [hy195]; exact H) | exact H
                                      have Ny195 := Aside0.mk hy195
                                      clear hy195
                                      have H' := Aside0.mk H
                                      clear H
                                      go_wp2_with (first | ((with_reducible refine gate_builtin (b := .append) (xs := #[.tmp 76, .tmp 77]) rfl ?_); at_builtin; refine Kd.R_append (Kd.int .u8) (w0 := w) w.heap.size rfl (.tmp 76) (.tmp 77) 52 5 (.int .u8 0) 1 rfl Tryd.underlying52 info5 rfl (by decide) (by omega) u3 x3_2 92 [.int .u8 92] (fun _ => True) (fun _ => False) rfl rfl ?aP (fun _ hk => hk.elim) ?aF ?aO ?aB ?aS ?aL ?_; (case aP => exact rfl); (case aB => exact (by repeat (first | (with_reducible first | exact HB.out | apply below_alloc | apply pw_below_drewN | apply below_drew1 | refine below_set ?_ GE172.out) | exact HB.out))); (case aF => exact (fun _ _ => trivial)); (case aO => exact (by (with_reducible repeat (first | apply Kd.R_alloc | apply Kd.R_drewN | apply Kd.R_drew)); exact HO_3.out)); (case aS => exact (below_size (by repeat (first | (with_reducible first | exact HB.out | apply below_alloc | apply pw_below_drewN | apply below_drew1 | refine below_set ?_ GE172.out) | exact HB.out)))); (case aL => have := LMc47.out; omega); intro v193 w49 ho hb hg hat; rw [← Ny192.out] at ho; have n0_ := Aside0.mk (blk_grown (g := gb172) (o := .cells #[.int .i64 a0_0, .int .i64 a0_1, .string a0_2, .slice A0_3 l0_3.length c0_3] 24 (0, 0)) (by (with_reducible repeat (first | refine blk_drewN ?_ _ | refine blk_drew ?_ | refine blk_alloc ?_ _)); exact BK172.out) hg (Kd.R_ne HO_3.out BK172.out (by decide))); have n1_ := Aside0.mk (hb); have n2_ := Aside0.mk (ho); clear BK172; clear HB; clear HO_3; have BK172 := n0_; have HB := n1_; have HO194 := n2_; clear n0_ n1_ n2_; clear ho hb hg hat) | ((with_reducible refine gate_builtin (b := .append) (xs := #[.tmp 79, .tmp 81]) rfl ?_); at_builtin; refine Kd.R_append (Kd.int .u8) (w0 := w) w.heap.size rfl (.tmp 79) (.tmp 81) 52 5 (.int .u8 0) 1 rfl Tryd.underlying52 info5 rfl (by decide) (by omega) v193 y192 (bt a0_2 x4_2) [.int .u8 (bt a0_2 x4_2)] (fun _ => True) (fun _ => False) rfl rfl ?aP (fun _ hk => hk.elim) ?aF ?aO ?aB ?aS ?aL ?_; (case aP => exact rfl); (case aB => exact (by repeat (first | (with_reducible first | exact HB.out | apply below_alloc | apply pw_below_drewN | apply below_drew1 | refine below_set ?_ GE172.out) | exact HB.out))); (case aF => exact (fun _ _ => trivial)); (case aO => exact (by (with_reducible repeat (first | apply Kd.R_alloc | apply Kd.R_drewN | apply Kd.R_drew)); exact HO194.out)); (case aS => exact (below_size (by repeat (first | (with_reducible first | exact HB.out | apply below_alloc | apply pw_below_drewN | apply below_drew1 | refine below_set ?_ GE172.out) | exact HB.out)))); (case aL => have := LMc48.out; omega); intro v196 w50 ho hb hg hat; rw [← Ny195.out] at ho; have n0_ := Aside0.mk (blk_grown (g := gb172) (o := .cells #[.int .i64 a0_0, .int .i64 a0_1, .string a0_2, .slice A0_3 l0_3.length c0_3] 24 (0, 0)) (by (with_reducible repeat (first | refine blk_drewN ?_ _ | refine blk_drew ?_ | refine blk_alloc ?_ _)); exact BK172.out) hg (Kd.R_ne HO194.out BK172.out (by decide))); have n1_ := Aside0.mk (hb); have n2_ := Aside0.mk (ho); clear BK172; clear HB; clear HO194; have BK172 := n0_; have HB := n1_; have HO197 := n2_; clear n0_ n1_ n2_; clear ho hb hg hat))
                                      go_roundg kj25
                                      case measure => have := HJ6.out; have := HK2.out; have := HJ25.out; omega
                                      case rel => exact ⟨(y195), (wrap64 (x4_2 + 1)), (by first | rfl | (simp; done) | (simp [*]; done)), H', ⟨by have := HJ6.out; have := HK2.out; have := HJ25.out; omega⟩, ⟨by (with_reducible repeat (first | apply Kd.R_alloc | apply Kd.R_drewN | apply Kd.R_drew)); exact HO197.out⟩, ⟨by (with_reducible repeat (first | refine blk_drewN ?_ _ | refine blk_drew ?_ | refine blk_alloc ?_ _)); exact BK172.out⟩, ⟨by repeat (first | (with_reducible first | exact HB.out | apply below_alloc | apply pw_below_drewN | apply below_drew1 | refine below_set ?_ GE172.out) | exact HB.out)⟩⟩
                                    · rw [if_neg c48] at H
                                      exact absurd H (by simp)
                                  · rw [if_neg c47] at H
                                    exact absurd H (by simp)
                                · rw [if_neg c46] at H
                                  have c46b0 : ((bt a0_2 x4_2) == 34) = false := beq_eq_false_iff_ne.mpr c46
                                  have c46b1 : ((bt a0_2 x4_2) != 34) = true := bne_iff_ne.mpr c46
                                  by_cases c51 : (bt a0_2 x4_2) = 92
                                  · rw [if_pos c51] at H
                                    have c51b0 : ((bt a0_2 x4_2) == 92) = true := beq_iff_eq.mpr c51
                                    have c51b1 : ((bt a0_2 x4_2) != 92) = false := bne_eq_false_iff_eq.mpr c51
                                    clear c51
                                    by_cases c52 : x3_2.length < 140737488355328
                                    · rw [if_pos c52] at H
                                      have LMc52 := Aside0.mk c52
                                      clear c52
                                      obtain ⟨y198, hy198⟩ : ∃ y_ : List Int, y_ = (x3_2 ++ [92]) := ⟨_, rfl⟩
                                      replace H : (if y198.length < 140737488355328 then (switchyardref06_Print.l0 kj25 (y198 ++ [(bt a0_2 x4_2)]) (wrap64 (x4_2 + 1)) a0_0 a0_1 a0_2 l0_3) else (none)) = some r := by first | (rw [hy198]; with_reducible exact H) | (have H2_ := (Option.bind_some _ _).symm.trans H; rw [hy198]; with_reducible exact H2_) | (have H2_ := (Option.bind_some _ _).symm.trans H; with_reducible exact H2_) | with_reducible exact H | (rw [hy198]; exact H) | exact H
                                      have Ny198 := Aside0.mk hy198
                                      clear hy198
                                      by_cases c53 : y198.length < 140737488355328
                                      · rw [if_pos c53] at H
                                        have LMc53 := Aside0.mk c53
                                        clear c53
                                        obtain ⟨y201, hy201⟩ : ∃ y_ : List Int, y_ = (y198 ++ [(bt a0_2 x4_2)]) := ⟨_, rfl⟩
                                        replace H : (switchyardref06_Print.l0 kj25 y201 (wrap64 (x4_2 + 1)) a0_0 a0_1 a0_2 l0_3) = some r := by first | (rw [hy201]; with_reducible exact H) | (have H2_ := (Option.bind_some _ _).symm.trans H; rw [hy201]; with_reducible exact H2_) | (have H2_ := (Option.bind_some _ _).symm.trans H; with_reducible exact H2_) | with_reducible exact H | (rw [hy201]; exact H) | exact H
                                        have Ny201 := Aside0.mk hy201
                                        clear hy201
                                        have H' := Aside0.mk H
                                        clear H
                                        go_wp2_with (first | ((with_reducible refine gate_builtin (b := .append) (xs := #[.tmp 76, .tmp 77]) rfl ?_); at_builtin; refine Kd.R_append (Kd.int .u8) (w0 := w) w.heap.size rfl (.tmp 76) (.tmp 77) 52 5 (.int .u8 0) 1 rfl Tryd.underlying52 info5 rfl (by decide) (by omega) u3 x3_2 92 [.int .u8 92] (fun _ => True) (fun _ => False) rfl rfl ?aP (fun _ hk => hk.elim) ?aF ?aO ?aB ?aS ?aL ?_; (case aP => exact rfl); (case aB => exact (by repeat (first | (with_reducible first | exact HB.out | apply below_alloc | apply pw_below_drewN | apply below_drew1 | refine below_set ?_ GE172.out) | exact HB.out))); (case aF => exact (fun _ _ => trivial)); (case aO => exact (by (with_reducible repeat (first | apply Kd.R_alloc | apply Kd.R_drewN | apply Kd.R_drew)); exact HO_3.out)); (case aS => exact (below_size (by repeat (first | (with_reducible first | exact HB.out | apply below_alloc | apply pw_below_drewN | apply below_drew1 | refine below_set ?_ GE172.out) | exact HB.out)))); (case aL => have := LMc52.out; omega); intro v199 w54 ho hb hg hat; rw [← Ny198.out] at ho; have n0_ := Aside0.mk (blk_grown (g := gb172) (o := .cells #[.int .i64 a0_0, .int .i64 a0_1, .string a0_2, .slice A0_3 l0_3.length c0_3] 24 (0, 0)) (by (with_reducible repeat (first | refine blk_drewN ?_ _ | refine blk_drew ?_ | refine blk_alloc ?_ _)); exact BK172.out) hg (Kd.R_ne HO_3.out BK172.out (by decide))); have n1_ := Aside0.mk (hb); have n2_ := Aside0.mk (ho); clear BK172; clear HB; clear HO_3; have BK172 := n0_; have HB := n1_; have HO200 := n2_; clear n0_ n1_ n2_; clear ho hb hg hat) | ((with_reducible refine gate_builtin (b := .append) (xs := #[.tmp 79, .tmp 81]) rfl ?_); at_builtin; refine Kd.R_append (Kd.int .u8) (w0 := w) w.heap.size rfl (.tmp 79) (.tmp 81) 52 5 (.int .u8 0) 1 rfl Tryd.underlying52 info5 rfl (by decide) (by omega) v199 y198 (bt a0_2 x4_2) [.int .u8 (bt a0_2 x4_2)] (fun _ => True) (fun _ => False) rfl rfl ?aP (fun _ hk => hk.elim) ?aF ?aO ?aB ?aS ?aL ?_; (case aP => exact rfl); (case aB => exact (by repeat (first | (with_reducible first | exact HB.out | apply below_alloc | apply pw_below_drewN | apply below_drew1 | refine below_set ?_ GE172.out) | exact HB.out))); (case aF => exact (fun _ _ => trivial)); (case aO => exact (by (with_reducible repeat (first | apply Kd.R_alloc | apply Kd.R_drewN | apply Kd.R_drew)); exact HO200.out)); (case aS => exact (below_size (by repeat (first | (with_reducible first | exact HB.out | apply below_alloc | apply pw_below_drewN | apply below_drew1 | refine below_set ?_ GE172.out) | exact HB.out)))); (case aL => have := LMc53.out; omega); intro v202 w55 ho hb hg hat; rw [← Ny201.out] at ho; have n0_ := Aside0.mk (blk_grown (g := gb172) (o := .cells #[.int .i64 a0_0, .int .i64 a0_1, .string a0_2, .slice A0_3 l0_3.length c0_3] 24 (0, 0)) (by (with_reducible repeat (first | refine blk_drewN ?_ _ | refine blk_drew ?_ | refine blk_alloc ?_ _)); exact BK172.out) hg (Kd.R_ne HO200.out BK172.out (by decide))); have n1_ := Aside0.mk (hb); have n2_ := Aside0.mk (ho); clear BK172; clear HB; clear HO200; have BK172 := n0_; have HB := n1_; have HO203 := n2_; clear n0_ n1_ n2_; clear ho hb hg hat))
                                        go_roundg kj25
                                        case measure => have := HJ6.out; have := HK2.out; have := HJ25.out; omega
                                        case rel => exact ⟨(y201), (wrap64 (x4_2 + 1)), (by first | rfl | (simp; done) | (simp [*]; done)), H', ⟨by have := HJ6.out; have := HK2.out; have := HJ25.out; omega⟩, ⟨by (with_reducible repeat (first | apply Kd.R_alloc | apply Kd.R_drewN | apply Kd.R_drew)); exact HO203.out⟩, ⟨by (with_reducible repeat (first | refine blk_drewN ?_ _ | refine blk_drew ?_ | refine blk_alloc ?_ _)); exact BK172.out⟩, ⟨by repeat (first | (with_reducible first | exact HB.out | apply below_alloc | apply pw_below_drewN | apply below_drew1 | refine below_set ?_ GE172.out) | exact HB.out)⟩⟩
                                      · rw [if_neg c53] at H
                                        exact absurd H (by simp)
                                    · rw [if_neg c52] at H
                                      exact absurd H (by simp)
                                  · rw [if_neg c51] at H
                                    have c51b0 : ((bt a0_2 x4_2) == 92) = false := beq_eq_false_iff_ne.mpr c51
                                    have c51b1 : ((bt a0_2 x4_2) != 92) = true := bne_iff_ne.mpr c51
                                    by_cases c56 : x3_2.length < 140737488355328
                                    · rw [if_pos c56] at H
                                      have LMc56 := Aside0.mk c56
                                      clear c56
                                      obtain ⟨y204, hy204⟩ : ∃ y_ : List Int, y_ = (x3_2 ++ [(bt a0_2 x4_2)]) := ⟨_, rfl⟩
                                      replace H : (switchyardref06_Print.l0 kj25 y204 (wrap64 (x4_2 + 1)) a0_0 a0_1 a0_2 l0_3) = some r := by first | (rw [hy204]; with_reducible exact H) | (have H2_ := (Option.bind_some _ _).symm.trans H; rw [hy204]; with_reducible exact H2_) | (have H2_ := (Option.bind_some _ _).symm.trans H; with_reducible exact H2_) | with_reducible exact H | (rw [hy204]; exact H) | exact H
                                      have Ny204 := Aside0.mk hy204
                                      clear hy204
                                      have H' := Aside0.mk H
                                      clear H
                                      go_wp2_with (first | ((with_reducible refine gate_builtin (b := .append) (xs := #[.tmp 79, .tmp 81]) rfl ?_); at_builtin; refine Kd.R_append (Kd.int .u8) (w0 := w) w.heap.size rfl (.tmp 79) (.tmp 81) 52 5 (.int .u8 0) 1 rfl Tryd.underlying52 info5 rfl (by decide) (by omega) u3 x3_2 (bt a0_2 x4_2) [.int .u8 (bt a0_2 x4_2)] (fun _ => True) (fun _ => False) rfl rfl ?aP (fun _ hk => hk.elim) ?aF ?aO ?aB ?aS ?aL ?_; (case aP => exact rfl); (case aB => exact (by repeat (first | (with_reducible first | exact HB.out | apply below_alloc | apply pw_below_drewN | apply below_drew1 | refine below_set ?_ GE172.out) | exact HB.out))); (case aF => exact (fun _ _ => trivial)); (case aO => exact (by (with_reducible repeat (first | apply Kd.R_alloc | apply Kd.R_drewN | apply Kd.R_drew)); exact HO_3.out)); (case aS => exact (below_size (by repeat (first | (with_reducible first | exact HB.out | apply below_alloc | apply pw_below_drewN | apply below_drew1 | refine below_set ?_ GE172.out) | exact HB.out)))); (case aL => have := LMc56.out; omega); intro v205 w57 ho hb hg hat; rw [← Ny204.out] at ho; have n0_ := Aside0.mk (blk_grown (g := gb172) (o := .cells #[.int .i64 a0_0, .int .i64 a0_1, .string a0_2, .slice A0_3 l0_3.length c0_3] 24 (0, 0)) (by (with_reducible repeat (first | refine blk_drewN ?_ _ | refine blk_drew ?_ | refine blk_alloc ?_ _)); exact BK172.out) hg (Kd.R_ne HO_3.out BK172.out (by decide))); have n1_ := Aside0.mk (hb); have n2_ := Aside0.mk (ho); clear BK172; clear HB; clear HO_3; have BK172 := n0_; have HB := n1_; have HO206 := n2_; clear n0_ n1_ n2_; clear ho hb hg hat))
                                      go_roundg kj25
                                      case measure => have := HJ6.out; have := HK2.out; have := HJ25.out; omega
                                      case rel => exact ⟨(y204), (wrap64 (x4_2 + 1)), (by first | rfl | (simp; done) | (simp [*]; done)), H', ⟨by have := HJ6.out; have := HK2.out; have := HJ25.out; omega⟩, ⟨by (with_reducible repeat (first | apply Kd.R_alloc | apply Kd.R_drewN | apply Kd.R_drew)); exact HO206.out⟩, ⟨by (with_reducible repeat (first | refine blk_drewN ?_ _ | refine blk_drew ?_ | refine blk_alloc ?_ _)); exact BK172.out⟩, ⟨by repeat (first | (with_reducible first | exact HB.out | apply below_alloc | apply pw_below_drewN | apply below_drew1 | refine below_set ?_ GE172.out) | exact HB.out)⟩⟩
                                    · rw [if_neg c56] at H
                                      exact absurd H (by simp)
                        · rw [if_neg c24] at H
                          exact absurd H (by simp)
                      · rw [if_neg c23] at H
                        have c23b0 : decide (x4_2 < (a0_2.size : Int)) = false := decide_eq_false c23
                        clear c23
                        by_cases c58 : x3_2.length < 140737488355328
                        · rw [if_pos c58] at H
                          have LMc58 := Aside0.mk c58
                          clear c58
                          obtain ⟨y177, hy177⟩ : ∃ y_ : List Int, y_ = (x3_2 ++ [34]) := ⟨_, rfl⟩
                          replace H : (some (strOfNums y177)) = some r := by first | (rw [hy177]; with_reducible exact H) | (have H2_ := (Option.bind_some _ _).symm.trans H; rw [hy177]; with_reducible exact H2_) | (have H2_ := (Option.bind_some _ _).symm.trans H; with_reducible exact H2_) | with_reducible exact H | (rw [hy177]; exact H) | exact H
                          have Ny177 := Aside0.mk hy177
                          clear hy177
                          obtain rfl := Option.some.inj H
                          have hcz59_0 : wr.cell? ⟨gb172, 0, none⟩ = some (.int .i64 a0_0) := (blk_cell BK172.out 0).trans rfl
                          have hcz59_1 : wr.cell? ⟨gb172, 1, none⟩ = some (.int .i64 a0_1) := (blk_cell BK172.out 1).trans rfl
                          have hcz59_2 : wr.cell? ⟨gb172, 2, none⟩ = some (.string a0_2) := (blk_cell BK172.out 2).trans rfl
                          have hcz59_3 : wr.cell? ⟨gb172, 3, none⟩ = some (.slice A0_3 l0_3.length c0_3) := (blk_cell BK172.out 3).trans rfl
                          have hfz59_0 := blk_frozen BK172.out 0
                          have hfz59_1 := blk_frozen BK172.out 1
                          have hfz59_2 := blk_frozen BK172.out 2
                          have hfz59_3 := blk_frozen BK172.out 3
                          go_wp2_with (first | ((with_reducible refine gate_builtin (b := .append) (xs := #[.tmp 83, .tmp 84]) rfl ?_); at_builtin; refine Kd.R_append (Kd.int .u8) (w0 := w) w.heap.size rfl (.tmp 83) (.tmp 84) 52 5 (.int .u8 0) 1 rfl Tryd.underlying52 info5 rfl (by decide) (by omega) u3 x3_2 34 [.int .u8 34] (fun _ => True) (fun _ => False) rfl rfl ?aP (fun _ hk => hk.elim) ?aF ?aO ?aB ?aS ?aL ?_; (case aP => exact rfl); (case aB => exact (by repeat (first | (with_reducible first | exact HB.out | apply below_alloc | apply pw_below_drewN | apply below_drew1 | refine below_set ?_ GE172.out) | exact HB.out))); (case aF => exact (fun _ _ => trivial)); (case aO => exact (by (with_reducible repeat (first | apply Kd.R_alloc | apply Kd.R_drewN | apply Kd.R_drew)); exact HO_3.out)); (case aS => exact (below_size (by repeat (first | (with_reducible first | exact HB.out | apply below_alloc | apply pw_below_drewN | apply below_drew1 | refine below_set ?_ GE172.out) | exact HB.out)))); (case aL => have := LMc58.out; omega); intro v178 w60 ho hb hg hat; rw [← Ny177.out] at ho; have n0_ := Aside0.mk (blk_grown (g := gb172) (o := .cells #[.int .i64 a0_0, .int .i64 a0_1, .string a0_2, .slice A0_3 l0_3.length c0_3] 24 (0, 0)) (by (with_reducible repeat (first | refine blk_drewN ?_ _ | refine blk_drew ?_ | refine blk_alloc ?_ _)); exact BK172.out) hg (Kd.R_ne HO_3.out BK172.out (by decide))); have n1_ := Aside0.mk (hb); have n2_ := Aside0.mk (ho); clear BK172; clear HB; clear HO_3; have BK172 := n0_; have HB := n1_; have HO179 := n2_; clear n0_ n1_ n2_; clear ho hb hg hat; have hcv61 := own_string (P := Tryd.prog) Tryd.underlying52 Tryd.underlying5 Tryd.underlying9 (Kd.own_of_R HO179.out)))
                          go_ret
                          exact ⟨by first | rfl | (simp [errW_none, errW_some] <;> rfl) | (simp [*, errW_none, errW_some] <;> rfl), by repeat (first | (with_reducible first | exact HB.out | apply below_alloc | apply pw_below_drewN | apply below_drew1 | refine below_set ?_ GE172.out) | exact HB.out)⟩
                        · rw [if_neg c58] at H
                          exact absurd H (by simp)
                · rw [if_neg c20] at H
                  exact absurd H (by simp)
              · rw [if_neg c19] at H
                have c19b0 : (a0_0 == 3) = false := beq_eq_false_iff_ne.mpr c19
                have c19b1 : (a0_0 != 3) = true := bne_iff_ne.mpr c19
                by_cases c62 : a0_0 = 5
                · rw [if_pos c62] at H
                  have c62b0 : (a0_0 == 5) = true := beq_iff_eq.mpr c62
                  have c62b1 : (a0_0 != 5) = false := bne_eq_false_iff_eq.mpr c62
                  clear c62
                  have H' := Aside0.mk H
                  clear H
                  have hcz63_0 : wc.cell? ⟨gb172, 0, none⟩ = some (.int .i64 a0_0) := (blk_cell BK172.out 0).trans rfl
                  have hcz63_1 : wc.cell? ⟨gb172, 1, none⟩ = some (.int .i64 a0_1) := (blk_cell BK172.out 1).trans rfl
                  have hcz63_2 : wc.cell? ⟨gb172, 2, none⟩ = some (.string a0_2) := (blk_cell BK172.out 2).trans rfl
                  have hcz63_3 : wc.cell? ⟨gb172, 3, none⟩ = some (.slice A0_3 l0_3.length c0_3) := (blk_cell BK172.out 3).trans rfl
                  have hfz63_0 := blk_frozen BK172.out 0
                  have hfz63_1 := blk_frozen BK172.out 1
                  have hfz63_2 := blk_frozen BK172.out 2
                  have hfz63_3 := blk_frozen BK172.out 3
                  go_wp2
                  go_loopg [6, 93] kj6 (fun kq v6 v93 w' => ∃ (x6_2 : ByteArray) (x93_2 : Int), v6 = .string x6_2 ∧ v93 = .int .i64 x93_2 ∧ Aside0 (switchyardref06_Print.l1 kq x6_2 l0_3 (l0_3.length : Int) x93_2 = some r) ∧ Aside0 (kq ≤ kj6) ∧ Aside0 (w'.heap[gb172]? = some (.cells #[.int .i64 a0_0, .int .i64 a0_1, .string a0_2, (.slice A0_3 l0_3.length c0_3)] 24 (0, 0))) ∧ Aside0 (Below w.heap.size w w'))
                  case atStart => exact ⟨((⟨#[91]⟩ : ByteArray)), (0), (by first | rfl | (simp; done) | (simp [*]; done)), (by first | rfl | (simp; done) | (simp [*]; done)), H', ⟨Nat.le_refl _⟩, ⟨by (with_reducible repeat (first | refine blk_drewN ?_ _ | refine blk_drew ?_ | refine blk_alloc ?_ _)); exact BK172.out⟩, ⟨by repeat (first | (with_reducible first | exact HB.out | apply below_alloc | apply pw_below_drewN | apply below_drew1 | refine below_set ?_ GE172.out) | exact HB.out)⟩⟩
                  case round =>
                    clear H'
                    try clear c1
                    try clear c2
                    try clear c2b0
                    try clear c2b1
                    try clear p2
                    try clear q2
                    try clear hx2
                    try clear c3
                    try clear p3
                    try clear q3
                    try clear hx3
                    try clear c4
                    try clear p4
                    try clear q4
                    try clear hx4
                    try clear c5
                    try clear c6
                    try clear p6
                    try clear hcv6
                    try clear c10
                    try clear c10b0
                    try clear c10b1
                    try clear c13
                    try clear c14
                    try clear c14b0
                    try clear c14b1
                    try clear c16
                    try clear c16b0
                    try clear c16b1
                    try clear c17
                    try clear c17b0
                    try clear c17b1
                    try clear c17b2
                    try clear c18
                    try clear c19
                    try clear c19b0
                    try clear c19b1
                    try clear c20
                    try clear c23
                    try clear c23b0
                    try clear c24
                    try clear c24b0
                    try clear p25
                    try clear q25
                    try clear hx25
                    try clear c28
                    try clear c28b0
                    try clear c29
                    try clear c30
                    try clear c31
                    try clear c33
                    try clear c33b0
                    try clear c34
                    try clear c34b0
                    try clear p35
                    try clear q35
                    try clear hx35
                    try clear c36
                    try clear c38
                    try clear c38b0
                    try clear c39
                    try clear c39b0
                    try clear p40
                    try clear q40
                    try clear hx40
                    try clear c41
                    try clear c46
                    try clear c46b0
                    try clear c46b1
                    try clear c47
                    try clear c48
                    try clear c51
                    try clear c51b0
                    try clear c51b1
                    try clear c52
                    try clear c53
                    try clear c56
                    try clear c58
                    try clear hcv61
                    try clear c62
                    try clear c62b0
                    try clear c62b1
                    try clear hcz11_0
                    try clear hcz11_1
                    try clear hcz11_2
                    try clear hcz11_3
                    try clear hcz12_0
                    try clear hcz12_1
                    try clear hcz12_2
                    try clear hcz12_3
                    try clear hcz15_0
                    try clear hcz15_1
                    try clear hcz15_2
                    try clear hcz15_3
                    try clear hcz18_0
                    try clear hcz18_1
                    try clear hcz18_2
                    try clear hcz18_3
                    try clear hcz21_0
                    try clear hcz21_1
                    try clear hcz21_2
                    try clear hcz21_3
                    try clear hcz27_0
                    try clear hcz27_1
                    try clear hcz27_2
                    try clear hcz27_3
                    try clear hcz59_0
                    try clear hcz59_1
                    try clear hcz59_2
                    try clear hcz59_3
                    try clear hcz5_0
                    try clear hcz5_1
                    try clear hcz5_2
                    try clear hcz5_3
                    try clear hcz63_0
                    try clear hcz63_1
                    try clear hcz63_2
                    try clear hcz63_3
                    try clear hcz9_0
                    try clear hcz9_1
                    try clear hcz9_2
                    try clear hcz9_3
                    try clear hfz11_0
                    try clear hfz11_1
                    try clear hfz11_2
                    try clear hfz11_3
                    try clear hfz12_0
                    try clear hfz12_1
                    try clear hfz12_2
                    try clear hfz12_3
                    try clear hfz15_0
                    try clear hfz15_1
                    try clear hfz15_2
                    try clear hfz15_3
                    try clear hfz18_0
                    try clear hfz18_1
                    try clear hfz18_2
                    try clear hfz18_3
                    try clear hfz21_0
                    try clear hfz21_1
                    try clear hfz21_2
                    try clear hfz21_3
                    try clear hfz27_0
                    try clear hfz27_1
                    try clear hfz27_2
                    try clear hfz27_3
                    try clear hfz59_0
                    try clear hfz59_1
                    try clear hfz59_2
                    try clear hfz59_3
                    try clear hfz5_0
                    try clear hfz5_1
                    try clear hfz5_2
                    try clear hfz5_3
                    try clear hfz63_0
                    try clear hfz63_1
                    try clear hfz63_2
                    try clear hfz63_3
                    try clear hfz9_0
                    try clear hfz9_1
                    try clear hfz9_2
                    try clear hfz9_3
                    try clear p2
                    try clear p25
                    try clear p35
                    try clear p40
                    try clear q2
                    try clear q25
                    try clear q35
                    try clear q40
                    obtain ⟨x6_2, x93_2, rfl, rfl, HA, HK2, BK172, HB⟩ := hrel
                    cases gk with
                    | zero => exact absurd HA.out (by simp [switchyardref06_Print.l1])
                    | succ k2 =>
                      have H := HA.out
                      clear HA
                      simp only [switchyardref06_Print.l1] at H
                      by_cases c64 : x93_2 < (l0_3.length : Int)
                      · rw [if_pos c64] at H
                        have c64b0 : decide (x93_2 < (l0_3.length : Int)) = true := decide_eq_true c64
                        clear c64
                        by_cases c65 : 0 ≤ x93_2
                        · rw [if_pos c65] at H
                          have c65b0 : decide (0 ≤ x93_2) = true := decide_eq_true c65
                          clear c65
                          by_cases c66 : x93_2 < (l0_3.length : Int)
                          · rw [if_pos c66] at H
                            have c66b0 : decide (x93_2 < (l0_3.length : Int)) = true := decide_eq_true c66
                            clear c66
                            by_cases c67 : x93_2 > 0
                            · rw [if_pos c67] at H
                              have c67b0 : decide (0 < x93_2) = true := decide_eq_true c67
                              clear c67
                              by_cases c68 : x6_2.size + 2 ≤ 9223372036854775807
                              · rw [if_pos c68] at H
                                have c68b0 := eq_true c68
                                have c68b1 : decide (x6_2.size + 2 ≤ 9223372036854775807) = true := decide_eq_true c68
                                try have c68b2 : (9223372036854775807 < x6_2.size + 2) = False := eq_false (Nat.not_lt.2 c68)
                                try (have c68s := c68; simp only [ByteArray.size_append, bsize_mk, List.size_toArray, List.length_cons, List.length_nil, Nat.reduceAdd, Nat.zero_add] at c68s)
                                try have c68s2 := eq_false (Nat.not_lt.2 c68s)
                                replace H := Option.bind_eq_some_iff.mp H
                                obtain ⟨t208, A690, H⟩ := H
                                replace H : (if (x6_2 ++ (⟨#[44, 32]⟩ : ByteArray)).size + t208.size ≤ 9223372036854775807 then (switchyardref06_Print.l1 k2 ((x6_2 ++ (⟨#[44, 32]⟩ : ByteArray)) ++ t208) l0_3 (l0_3.length : Int) (wrap64 (x93_2 + 1))) else (none)) = some r := H
                                have A69 := Aside0.mk A690
                                clear A690
                                by_cases c70 : (x6_2 ++ (⟨#[44, 32]⟩ : ByteArray)).size + t208.size ≤ 9223372036854775807
                                · rw [if_pos c70] at H
                                  have c70b0 := eq_true c70
                                  have c70b1 : decide ((x6_2 ++ (⟨#[44, 32]⟩ : ByteArray)).size + t208.size ≤ 9223372036854775807) = true := decide_eq_true c70
                                  try have c70b2 : (9223372036854775807 < (x6_2 ++ (⟨#[44, 32]⟩ : ByteArray)).size + t208.size) = False := eq_false (Nat.not_lt.2 c70)
                                  try (have c70s := c70; simp only [ByteArray.size_append, bsize_mk, List.size_toArray, List.length_cons, List.length_nil, Nat.reduceAdd, Nat.zero_add] at c70s)
                                  try have c70s2 := eq_false (Nat.not_lt.2 c70s)
                                  have H' := Aside0.mk H
                                  clear H
                                  have p207 : 0 ≤ (x93_2 : Int) := of_decide_eq_true (by first | (with_reducible assumption) | assumption)
                                  have q207 : x93_2 < (l0_3.length : Int) := of_decide_eq_true (by first | (with_reducible assumption) | assumption)
                                  obtain ⟨ad207, e207, hx207_0⟩ := Kd.at_int HR0_3.out x93_2 p207 q207
                                  cases e207
                                  replace hx207_0 := (HB.out.cell (World.block_lt_of_cell? w _ hx207_0)).trans hx207_0
                                  replace p207 := eq_true p207
                                  replace q207 := eq_true q207
                                  go_wp2_with (first | ((with_reducible refine gate_callee (f := 32) rfl ?_); refine goesL_ (some 104) rfl rfl Tryd.func32 (by kernel_rfl) rfl #[.int .i64 (rd l0_3 x93_2)] rfl (by (try simp only [List.map_toArray, List.map_cons, List.map_nil]); first | done | rfl | (simp only [List.length_drop, List.length_take]; rfl)) ?_; (with_reducible refine (switchyardref06_Decimal.calls (rd l0_3 x93_2) t208 _ A69.out).mono ?_); rintro e w71 ⟨rfl, hb⟩; refine ⟨_, rfl, ?_⟩; have n0_ := Aside0.mk (blk_below (g := gb172) (o := .cells #[.int .i64 a0_0, .int .i64 a0_1, .string a0_2, .slice (some ad207) l0_3.length c0_3] 24 (0, 0)) (by (with_reducible repeat (first | refine blk_drewN ?_ _ | refine blk_drew ?_ | refine blk_alloc ?_ _)); exact BK172.out) hb); have n1_ := Aside0.mk (below_step (by repeat (first | (with_reducible first | exact HB.out | apply below_alloc | apply pw_below_drewN | apply below_drew1 | refine below_set ?_ GE172.out) | exact HB.out)) hb); clear BK172; clear HB; have BK172 := n0_; have HB := n1_; clear n0_ n1_; (try clear hb); (try clear hb2); (try clear hk); (try clear hi)))
                                  go_roundg k2
                                  case measure => have := HJ6.out; have := HK2.out; omega
                                  case rel => exact ⟨((x6_2 ++ (⟨#[44, 32]⟩ : ByteArray)) ++ t208), (wrap64 (x93_2 + 1)), (by first | rfl | (simp; done) | (simp [*]; done)), (by first | rfl | (simp; done) | (simp [*]; done)), H', ⟨by have := HJ6.out; have := HK2.out; omega⟩, ⟨by (with_reducible repeat (first | refine blk_drewN ?_ _ | refine blk_drew ?_ | refine blk_alloc ?_ _)); exact BK172.out⟩, ⟨by repeat (first | (with_reducible first | exact HB.out | apply below_alloc | apply pw_below_drewN | apply below_drew1 | refine below_set ?_ GE172.out) | exact HB.out)⟩⟩
                                · rw [if_neg c70] at H
                                  exact absurd H (by simp)
                              · rw [if_neg c68] at H
                                exact absurd H (by simp)
                            · rw [if_neg c67] at H
                              have c67b0 : decide (0 < x93_2) = false := decide_eq_false c67
                              clear c67
                              replace H := Option.bind_eq_some_iff.mp H
                              obtain ⟨t209, A720, H⟩ := H
                              replace H : (if x6_2.size + t209.size ≤ 9223372036854775807 then (switchyardref06_Print.l1 k2 (x6_2 ++ t209) l0_3 (l0_3.length : Int) (wrap64 (x93_2 + 1))) else (none)) = some r := H
                              have A72 := Aside0.mk A720
                              clear A720
                              by_cases c73 : x6_2.size + t209.size ≤ 9223372036854775807
                              · rw [if_pos c73] at H
                                have c73b0 := eq_true c73
                                have c73b1 : decide (x6_2.size + t209.size ≤ 9223372036854775807) = true := decide_eq_true c73
                                try have c73b2 : (9223372036854775807 < x6_2.size + t209.size) = False := eq_false (Nat.not_lt.2 c73)
                                try (have c73s := c73; simp only [ByteArray.size_append, bsize_mk, List.size_toArray, List.length_cons, List.length_nil, Nat.reduceAdd, Nat.zero_add] at c73s)
                                try have c73s2 := eq_false (Nat.not_lt.2 c73s)
                                have H' := Aside0.mk H
                                clear H
                                have p207 : 0 ≤ (x93_2 : Int) := of_decide_eq_true (by first | (with_reducible assumption) | assumption)
                                have q207 : x93_2 < (l0_3.length : Int) := of_decide_eq_true (by first | (with_reducible assumption) | assumption)
                                obtain ⟨ad207, e207, hx207_0⟩ := Kd.at_int HR0_3.out x93_2 p207 q207
                                cases e207
                                replace hx207_0 := (HB.out.cell (World.block_lt_of_cell? w _ hx207_0)).trans hx207_0
                                replace p207 := eq_true p207
                                replace q207 := eq_true q207
                                go_wp2_with (first | ((with_reducible refine gate_callee (f := 32) rfl ?_); refine goesL_ (some 104) rfl rfl Tryd.func32 (by kernel_rfl) rfl #[.int .i64 (rd l0_3 x93_2)] rfl (by (try simp only [List.map_toArray, List.map_cons, List.map_nil]); first | done | rfl | (simp only [List.length_drop, List.length_take]; rfl)) ?_; (with_reducible refine (switchyardref06_Decimal.calls (rd l0_3 x93_2) t209 _ A72.out).mono ?_); rintro e w74 ⟨rfl, hb⟩; refine ⟨_, rfl, ?_⟩; have n0_ := Aside0.mk (blk_below (g := gb172) (o := .cells #[.int .i64 a0_0, .int .i64 a0_1, .string a0_2, .slice (some ad207) l0_3.length c0_3] 24 (0, 0)) (by (with_reducible repeat (first | refine blk_drewN ?_ _ | refine blk_drew ?_ | refine blk_alloc ?_ _)); exact BK172.out) hb); have n1_ := Aside0.mk (below_step (by repeat (first | (with_reducible first | exact HB.out | apply below_alloc | apply pw_below_drewN | apply below_drew1 | refine below_set ?_ GE172.out) | exact HB.out)) hb); clear BK172; clear HB; have BK172 := n0_; have HB := n1_; clear n0_ n1_; (try clear hb); (try clear hb2); (try clear hk); (try clear hi)))
                                go_roundg k2
                                case measure => have := HJ6.out; have := HK2.out; omega
                                case rel => exact ⟨(x6_2 ++ t209), (wrap64 (x93_2 + 1)), (by first | rfl | (simp; done) | (simp [*]; done)), (by first | rfl | (simp; done) | (simp [*]; done)), H', ⟨by have := HJ6.out; have := HK2.out; omega⟩, ⟨by (with_reducible repeat (first | refine blk_drewN ?_ _ | refine blk_drew ?_ | refine blk_alloc ?_ _)); exact BK172.out⟩, ⟨by repeat (first | (with_reducible first | exact HB.out | apply below_alloc | apply pw_below_drewN | apply below_drew1 | refine below_set ?_ GE172.out) | exact HB.out)⟩⟩
                              · rw [if_neg c73] at H
                                exact absurd H (by simp)
                          · rw [if_neg c66] at H
                            exact absurd H (by simp)
                        · rw [if_neg c65] at H
                          exact absurd H (by simp)
                      · rw [if_neg c64] at H
                        have c64b0 : decide (x93_2 < (l0_3.length : Int)) = false := decide_eq_false c64
                        clear c64
                        by_cases c75 : x6_2.size + 1 ≤ 9223372036854775807
                        · rw [if_pos c75] at H
                          have c75b0 := eq_true c75
                          have c75b1 : decide (x6_2.size + 1 ≤ 9223372036854775807) = true := decide_eq_true c75
                          try have c75b2 : (9223372036854775807 < x6_2.size + 1) = False := eq_false (Nat.not_lt.2 c75)
                          try (have c75s := c75; simp only [ByteArray.size_append, bsize_mk, List.size_toArray, List.length_cons, List.length_nil, Nat.reduceAdd, Nat.zero_add] at c75s)
                          try have c75s2 := eq_false (Nat.not_lt.2 c75s)
                          obtain rfl := Option.some.inj H
                          go_wp2
                          go_ret
                          exact ⟨by first | rfl | (simp [errW_none, errW_some] <;> rfl) | (simp [*, errW_none, errW_some] <;> rfl), by repeat (first | (with_reducible first | exact HB.out | apply below_alloc | apply pw_below_drewN | apply below_drew1 | refine below_set ?_ GE172.out) | exact HB.out)⟩
                        · rw [if_neg c75] at H
                          exact absurd H (by simp)
                · rw [if_neg c62] at H
                  have c62b0 : (a0_0 == 5) = false := beq_eq_false_iff_ne.mpr c62
                  have c62b1 : (a0_0 != 5) = true := bne_iff_ne.mpr c62
                  obtain rfl := Option.some.inj H
                  have hcz76_0 : wc.cell? ⟨gb172, 0, none⟩ = some (.int .i64 a0_0) := (blk_cell BK172.out 0).trans rfl
                  have hcz76_1 : wc.cell? ⟨gb172, 1, none⟩ = some (.int .i64 a0_1) := (blk_cell BK172.out 1).trans rfl
                  have hcz76_2 : wc.cell? ⟨gb172, 2, none⟩ = some (.string a0_2) := (blk_cell BK172.out 2).trans rfl
                  have hcz76_3 : wc.cell? ⟨gb172, 3, none⟩ = some (.slice A0_3 l0_3.length c0_3) := (blk_cell BK172.out 3).trans rfl
                  have hfz76_0 := blk_frozen BK172.out 0
                  have hfz76_1 := blk_frozen BK172.out 1
                  have hfz76_2 := blk_frozen BK172.out 2
                  have hfz76_3 := blk_frozen BK172.out 3
                  go_wp2
                  go_ret
                  exact ⟨by first | rfl | (simp [errW_none, errW_some] <;> rfl) | (simp [*, errW_none, errW_some] <;> rfl), by repeat (first | (with_reducible first | exact HB.out | apply below_alloc | apply pw_below_drewN | apply below_drew1 | refine below_set ?_ GE172.out) | exact HB.out)⟩

end Go.Proofs.YtdmmgeggljlceaaDoor.XV
