/- ValueLists: the law's own call answers true. No conditions. -/
import Derived.Test.YtdmmgeggljlceaaDoorListsJ
import Derived.Test.YtdmmgeggljlceaaDoorCalled
import Derived.Test.YtdmmgeggljlceaaDoorXV17
import Derived.Test.YtdmmgeggljlceaaDoorPureB
import Derived.Test.YtdmmgeggljlceaaDoorOpen
namespace Go.Proofs.YtdmmgeggljlceaaDoor.XV
open Go.RowKit Go.Proofs.YtdmmgeggljlceaaDoorW.PrintWords Go.Proofs.YtdmmgeggljlceaaDoorW.PrintLast Go.Proofs.YtdmmgeggljlceaaDoorW.PrintMore
set_option linter.unusedVariables false
set_option linter.unusedSimpArgs false
theorem Kd.C_nil_ (w : World) : Kd.C (Kd.int .i64) w none 0 ([] : List Int) := ⟨rfl, by decide, fun h => absurd h (by simp)⟩
def switchyardlaw06_ValueLists.T7 : Bool × List (List Nat × List Nat) := (true, [([], []), ([0, 0], [0]), ([1], [1]), ([1], [1]), ([2, 3, 1, 1], [1, 2, 3]), ([1], [1]), ([1], [1]), ([5, 6, 4, 1], [1, 5, 6]), ([1], [1]), ([1], [1]), ([8, 9, 7, 1], [1, 8, 9]), ([7, 10, 10, 1], [1, 7, 10]), ([4, 11, 1], [1, 4, 11]), ([1, 12], [1, 12]), ([13, 11], [13]), ([14], [14]), ([15, 14], [14, 15]), ([16, 14], [14, 16]), ([17, 14, 14], [14, 17]), ([18], [18]), ([18], [18]), ([19, 20, 18, 18], [18, 19, 20]), ([18], [18]), ([21, 22, 21, 18], [18, 21, 22]), ([23, 18], [18, 23]), ([18, 24, 14], [14, 18, 24]), ([14, 25], [14, 25]), ([26, 23, 0, 1, 2, 3, 4, 5, 6, 7, 8, 9, 10, 11, 12, 13, 14, 15, 16, 17, 18, 19, 20, 21, 22, 23, 24, 25, 26], [26])])
def switchyardlaw06_ValueLists.B7 : List Nat := [0, 1, 3, 3, 15, 3, 3, 127, 3, 3, 1023, 2047, 4095, 8191, 16383, 32767, 65535, 131071, 262143, 524287, 524287, 2097151, 524287, 8388607, 16777215, 33554431, 67108863, 134217727]
theorem switchyardlaw06_ValueLists.tab7 : rtab .any (opsOf Tryd.f8 7) = switchyardlaw06_ValueLists.T7 := by kernel_rfl
theorem switchyardlaw06_ValueLists.bits7 : waitsOk switchyardlaw06_ValueLists.T7.2 switchyardlaw06_ValueLists.B7 = true := by kernel_rfl
set_option maxHeartbeats 1600000 in
theorem lists_walk1 (A0 : Option Addr) (c0 : Nat) (l0 : (List Int)) (A1 : Option Addr) (c1 : Nat) (l1 : (List Int)) (A2 : Option Addr) (c2 : Nat) (l2 : (List Int)) (W : World) (hC0 : Kd.C (Kd.int .i64) W A0 l0.length l0) (hC1 : Kd.C (Kd.int .i64) W A1 l1.length l1) (hC2 : Kd.C (Kd.int .i64) W A2 l2.length l2) (h0 : l0.length ≤ 5) (h1 : l1.length ≤ 5) (h2 : l2.length ≤ 5) (k : Nat) (haw : switchyardlaw06_awake.f k = some true) (t : Int) (ho1 : value_Order.f k 5 0 ByteArray.empty (l0 ++ l1) 5 0 ByteArray.empty (l0 ++ l2) = some t) (ho2 : value_Order.f k 5 0 ByteArray.empty ([] ++ l1) 5 0 ByteArray.empty ([] ++ l2) = some t) (ho3 : l1 ≠ [] → value_Order.f k 5 0 ByteArray.empty (l0 ++ []) 5 0 ByteArray.empty (l0 ++ l1) = some (-1)) (hT : Tabs W) :
    Calls Tryd.prog 8 #[.slice A0 l0.length c0, .slice A1 l1.length c1, .slice A2 l2.length c2] W fun e w' => e = .returned (.bool true) ∧ Below W.heap.size W w' := by
  have HR0 := Aside0.mk hC0
  have HR1 := Aside0.mk hC1
  have HR2 := Aside0.mk hC2
  have HA := Aside0.mk haw
  have HT := Aside0.mk hT
  have HB := Aside0.mk (Below.refl W.heap.size W)
  have HO1 := Aside0.mk ho1
  have HO2 := Aside0.mk ho2
  clear hC0 hC1 hC2 haw hT ho1 ho2
  have d0 : decide (5 < (l0.length : Int)) = false := decide_eq_false (by omega)
  have d1 : decide (5 < (l1.length : Int)) = false := decide_eq_false (by omega)
  have d2 : decide (5 < (l2.length : Int)) = false := decide_eq_false (by omega)
  go_enter Tryd.func8, Tryd.ntmps8
  go_wp2_with (first | ((with_reducible refine gate_callee (f := 10) rfl ?_); refine goesL_ (some 10) rfl rfl Tryd.func10 (by kernel_rfl) rfl #[] rfl (by (try simp only [List.map_toArray, List.map_cons, List.map_nil]); first | done | rfl) ?_; (with_reducible refine (switchyardlaw06_awake.calls k true _ HA.out (Tabs.below HT.out HB.out)).mono ?_); rintro e w1 ⟨rfl, hb⟩; refine ⟨_, rfl, ?_⟩; have n0_ := Aside0.mk (below_step HB.out hb); clear HB hb; have HB := n0_; clear n0_) | ((with_reducible refine gate_calleeV (op := .tmp 26) rfl ?_); refine goesLV_ (some 29) rfl rfl (f := 23) (.tmp 26) Tryd.func23 (by kernel_rfl) rfl #[.slice A0 l0.length c0, .slice A1 l1.length c1] rfl rfl (by (try simp only [List.map_toArray, List.map_cons, List.map_nil]); first | done | rfl) ?_; (with_reducible refine (lists_join A0 c0 l0 A1 c1 l1 _ (Kd.C_below HR0.out HB.out) (Kd.C_below HR1.out HB.out) h0 h1).mono ?_); rintro e w2 ⟨J8, d8, rfl, hl8, hC8, hb⟩; refine ⟨_, rfl, ?_⟩; have HJ8 := Aside0.mk hC8; have HL8 := Aside0.mk hl8; have n0_ := Aside0.mk (below_step HB.out hb); clear HB hC8 hl8; have HB := n0_; clear n0_) | ((with_reducible refine gate_calleeV (op := .tmp 30) rfl ?_); refine goesLV_ (some 33) rfl rfl (f := 23) (.tmp 30) Tryd.func23 (by kernel_rfl) rfl #[.slice A0 l0.length c0, .slice A2 l2.length c2] rfl rfl (by (try simp only [List.map_toArray, List.map_cons, List.map_nil]); first | done | rfl) ?_; (with_reducible refine (lists_join A0 c0 l0 A2 c2 l2 _ (Kd.C_below HR0.out HB.out) (Kd.C_below HR2.out HB.out) h0 h2).mono ?_); rintro e w3 ⟨J9, d9, rfl, hl9, hC9, hb⟩; refine ⟨_, rfl, ?_⟩; have HJ9 := Aside0.mk hC9; have HL9 := Aside0.mk hl9; have n0_ := Aside0.mk (below_step HB.out hb); clear HB hC9 hl9; have HB := n0_; clear n0_))
  have BK8 := Aside0.mk (blk_alloc (blk_new w3 (.cells #[.int .i64 5, .int .i64 0, .string ByteArray.empty, .slice J8 (l0.length + l1.length) d8] 24)) (.cells #[.int .i64 5, .int .i64 0, .string ByteArray.empty, .slice J9 (l0.length + l2.length) d9] 24))
  have BK9 := Aside0.mk (blk_new (w3.alloc (.cells #[.int .i64 5, .int .i64 0, .string ByteArray.empty, .slice J8 (l0.length + l1.length) d8] 24)) (.cells #[.int .i64 5, .int .i64 0, .string ByteArray.empty, .slice J9 (l0.length + l2.length) d9] 24))
  have hsz : (w3.alloc (.cells #[.int .i64 5, .int .i64 0, .string ByteArray.empty, .slice J8 (l0.length + l1.length) d8] 24)).heap.size = w3.heap.size + 1 := by simp
  rw [hsz] at BK9
  clear hsz
  have q8 := Aside0.mk (Kd.C_alloc (Kd.C_alloc (Kd.C_below HJ8.out hb) (.cells #[.int .i64 5, .int .i64 0, .string ByteArray.empty, .slice J8 (l0.length + l1.length) d8] 24)) (.cells #[.int .i64 5, .int .i64 0, .string ByteArray.empty, .slice J9 (l0.length + l2.length) d9] 24))
  have q9 := Aside0.mk (Kd.C_alloc (Kd.C_alloc HJ9.out (.cells #[.int .i64 5, .int .i64 0, .string ByteArray.empty, .slice J8 (l0.length + l1.length) d8] 24)) (.cells #[.int .i64 5, .int .i64 0, .string ByteArray.empty, .slice J9 (l0.length + l2.length) d9] 24))
  have qB := Aside0.mk (below_alloc (below_alloc HB.out (.cells #[.int .i64 5, .int .i64 0, .string ByteArray.empty, .slice J8 (l0.length + l1.length) d8] 24)) (.cells #[.int .i64 5, .int .i64 0, .string ByteArray.empty, .slice J9 (l0.length + l2.length) d9] 24))
  clear HJ8 HJ9 HB hb
  have HJ8 := q8
  have HJ9 := q9
  have HB := qB
  clear q8 q9 qB
  generalize ((w3.alloc (.cells #[.int .i64 5, .int .i64 0, .string ByteArray.empty, .slice J8 (l0.length + l1.length) d8] 24)).alloc (.cells #[.int .i64 5, .int .i64 0, .string ByteArray.empty, .slice J9 (l0.length + l2.length) d9] 24)) = w4 at *
  generalize w3.heap.size + 1 = g9 at *
  generalize w3.heap.size = g8 at *
  simp only [← List.length_append] at BK8 BK9 ⊢
  generalize l0 ++ l1 = x8 at *
  generalize l0 ++ l2 = x9 at *
  by_cases hz : l1 = []
  · have hz0 : ((l1.length : Int) == 0) = true := by rw [hz]; rfl
    have hz1 : decide ((l1.length : Int) = 0) = true := by rw [hz]; rfl
    clear hz
    have n0_ := Aside0.mk (blk_drew BK8.out)
    have n1_ := Aside0.mk (blk_drew BK9.out)
    have n2_ := Aside0.mk (below_drew1 HB.out)
    have n3_ := Aside0.mk (Kd.C_drew HJ8.out)
    have n4_ := Aside0.mk (Kd.C_drew HJ9.out)
    clear BK8 BK9 HB HJ8 HJ9
    have BK8 := n0_
    have BK9 := n1_
    have HB := n2_
    have HJ8 := n3_
    have HJ9 := n4_
    clear n0_ n1_ n2_ n3_ n4_
    refine start_ (n := 28) (S := fun w' => w'.cell? ⟨g8, 0, none⟩ = some (.int .i64 5) ∧ w'.cell? ⟨g8, 1, none⟩ = some (.int .i64 0) ∧ w'.cell? ⟨g8, 2, none⟩ = some (.string ByteArray.empty) ∧ w'.cell? ⟨g8, 3, none⟩ = some (.slice J8 x8.length d8) ∧ w'.cell? ⟨g9, 0, none⟩ = some (.int .i64 5) ∧ w'.cell? ⟨g9, 1, none⟩ = some (.int .i64 0) ∧ w'.cell? ⟨g9, 2, none⟩ = some (.string ByteArray.empty) ∧ w'.cell? ⟨g9, 3, none⟩ = some (.slice J9 x9.length d9)) (ds := []) #[false, false, false, false, false, false, false, false, false, false, false, false, false, false, false, false, false, false, false, false, false, false, false, false, false, false, false, false] (by kernel_rfl) rfl rfl ⟨(blk_cell BK8.out 0).trans rfl, (blk_cell BK8.out 1).trans rfl, (blk_cell BK8.out 2).trans rfl, (blk_cell BK8.out 3).trans rfl, (blk_cell BK9.out 0).trans rfl, (blk_cell BK9.out 1).trans rfl, (blk_cell BK9.out 2).trans rfl, (blk_cell BK9.out 3).trans rfl⟩ (fun hHeld => ?_)
    refine with_tabW switchyardlaw06_ValueLists.tab7 switchyardlaw06_ValueLists.bits7 (fun HT_ HW_ => ?_)
    generalize w4.drew = w5 at BK8 BK9 HB HJ8 HJ9 hHeld ⊢
    refine one_ (i := 0) (N := (some 34)) #[true, false, false, false, false, false, false, false, false, false, false, false, false, false, false, false, false, false, false, false, false, false, false, false, false, false, false, false] rfl rfl (one_of HT_.out (by kernel_rfl)) (by decide) (fun K hK => ?_)
    refine goes_ Tryd.func10 (by kernel_rfl) rfl #[] (by rfl) rfl rfl (by (try simp only [List.map_toArray, List.map_cons, List.map_nil]); first | done | rfl) ?_
    refine (switchyardlaw06_awake.calls k true _ HA.out (Tabs.below HT.out HB.out)).mono ?_
    rintro e w6 ⟨rfl, hb⟩
    refine ⟨_, rfl, ?_⟩
    have n0_ := Aside0.mk (blk_below BK8.out hb)
    have n1_ := Aside0.mk (blk_below BK9.out hb)
    have n2_ := Aside0.mk (below_step HB.out hb)
    have n3_ := Aside0.mk (Kd.C_below HJ8.out hb)
    have n4_ := Aside0.mk (Kd.C_below HJ9.out hb)
    clear hb BK8 BK9 HB HJ8 HJ9
    have BK8 := n0_
    have BK9 := n1_
    have HB := n2_
    have HJ8 := n3_
    have HJ9 := n4_
    clear n0_ n1_ n2_ n3_ n4_
    refine hK.out _ _ ⟨(blk_cell BK8.out 0).trans rfl, (blk_cell BK8.out 1).trans rfl, (blk_cell BK8.out 2).trans rfl, (blk_cell BK8.out 3).trans rfl, (blk_cell BK9.out 0).trans rfl, (blk_cell BK9.out 1).trans rfl, (blk_cell BK9.out 2).trans rfl, (blk_cell BK9.out 3).trans rfl⟩ (fun hHeld => ?_)
    clear hK K
    refine norm_ (a' := ?_) ?_ ?_
    rotate_left
    · show Act.put _ (some 34) _ = _
      simp only [Act.put, List.setIfInBounds_toArray, List.set_cons_zero, List.set_cons_succ, i64_w, i32_w]
      rfl
    refine pure_ (i := 1) (N := (some 35)) (v := ?_) (a' := ?_) #[true, true, false, false, false, false, false, false, false, false, false, false, false, false, false, false, false, false, false, false, false, false, false, false, false, false, false, false] rfl rfl (any_of HT_.out (by kernel_rfl)) (fun _ _ _ h => h) (Or.inl ⟨by rfl, ?_⟩) ?_ ?_
    rotate_left
    · intro w'
      go_simp
      with_reducible rfl
    rotate_left
    · simp only [Act.put, List.setIfInBounds_toArray, List.set_cons_zero, List.set_cons_succ, i64_w, i32_w]
      rfl
    refine take_ (i := 2) (N := (some 36)) (v := ?_) (a' := ?_) #[true, true, true, false, false, false, false, false, false, false, false, false, false, false, false, false, false, false, false, false, false, false, false, false, false, false, false, false] rfl rfl (take_ofW HT_.out HW_.out (by kernel_rfl)) (fun _ _ _ h => h) (Or.inl ⟨by rfl, ?_⟩) hHeld ?_ ?_
    rotate_left
    · rintro w' ⟨s0, s1, s2, s3, s4, s5, s6, s7⟩
      go_simp
      with_reducible rfl
    rotate_left
    · simp only [Act.put, List.setIfInBounds_toArray, List.set_cons_zero, List.set_cons_succ, i64_w, i32_w]
      rfl
    refine take_ (i := 3) (N := (some 37)) (v := ?_) (a' := ?_) #[true, true, true, true, false, false, false, false, false, false, false, false, false, false, false, false, false, false, false, false, false, false, false, false, false, false, false, false] rfl rfl (take_ofW HT_.out HW_.out (by kernel_rfl)) (fun _ _ _ h => h) (Or.inl ⟨by rfl, ?_⟩) hHeld ?_ ?_
    rotate_left
    · rintro w' ⟨s0, s1, s2, s3, s4, s5, s6, s7⟩
      go_simp
      with_reducible rfl
    rotate_left
    · simp only [Act.put, List.setIfInBounds_toArray, List.set_cons_zero, List.set_cons_succ, i64_w, i32_w]
      rfl
    refine pure_ (i := 5) (N := (some 39)) (v := ?_) (a' := ?_) #[true, true, true, true, false, true, false, false, false, false, false, false, false, false, false, false, false, false, false, false, false, false, false, false, false, false, false, false] rfl rfl (any_of HT_.out (by kernel_rfl)) (fun _ _ _ h => h) (Or.inl ⟨by rfl, ?_⟩) ?_ ?_
    rotate_left
    · intro w'
      go_simp
      with_reducible rfl
    rotate_left
    · simp only [Act.put, List.setIfInBounds_toArray, List.set_cons_zero, List.set_cons_succ, i64_w, i32_w]
      rfl
    refine pure_ (i := 6) (N := (some 40)) (v := ?_) (a' := ?_) #[true, true, true, true, false, true, true, false, false, false, false, false, false, false, false, false, false, false, false, false, false, false, false, false, false, false, false, false] rfl rfl (any_of HT_.out (by kernel_rfl)) (fun _ _ _ h => h) (Or.inl ⟨by rfl, ?_⟩) ?_ ?_
    rotate_left
    · intro w'
      go_simp
      with_reducible rfl
    rotate_left
    · simp only [Act.put, List.setIfInBounds_toArray, List.set_cons_zero, List.set_cons_succ, i64_w, i32_w]
      rfl
    refine pure_ (i := 8) (N := (some 42)) (v := ?_) (a' := ?_) #[true, true, true, true, false, true, true, false, true, false, false, false, false, false, false, false, false, false, false, false, false, false, false, false, false, false, false, false] rfl rfl (any_of HT_.out (by kernel_rfl)) (fun _ _ _ h => h) (Or.inl ⟨by rfl, ?_⟩) ?_ ?_
    rotate_left
    · intro w'
      go_simp
      with_reducible rfl
    rotate_left
    · simp only [Act.put, List.setIfInBounds_toArray, List.set_cons_zero, List.set_cons_succ, i64_w, i32_w]
      rfl
    refine pure_ (i := 9) (N := (some 43)) (v := ?_) (a' := ?_) #[true, true, true, true, false, true, true, false, true, true, false, false, false, false, false, false, false, false, false, false, false, false, false, false, false, false, false, false] rfl rfl (any_of HT_.out (by kernel_rfl)) (fun _ _ _ h => h) (Or.inl ⟨by rfl, ?_⟩) ?_ ?_
    rotate_left
    · intro w'
      go_simp
      with_reducible rfl
    rotate_left
    · simp only [Act.put, List.setIfInBounds_toArray, List.set_cons_zero, List.set_cons_succ, i64_w, i32_w]
      rfl
    refine one_ (i := 4) (N := (some 38)) #[true, true, true, true, true, true, true, false, true, true, false, false, false, false, false, false, false, false, false, false, false, false, false, false, false, false, false, false] rfl rfl (one_of HT_.out (by kernel_rfl)) (by decide) (fun K hK => ?_)
    refine goes_ Tryd.func22 (by kernel_rfl) rfl #[.agg #[.int .i64 5, .int .i64 0, .string ByteArray.empty, .slice J8 x8.length d8], .agg #[.int .i64 5, .int .i64 0, .string ByteArray.empty, .slice J9 x9.length d9]] (by rfl) rfl rfl (by (try simp only [List.map_toArray, List.map_cons, List.map_nil]); first | done | rfl) ?_
    refine (value_Order.calls k 5 0 ByteArray.empty _ _ x8 5 0 ByteArray.empty _ _ x9 t _ HJ8.out HL8.out HJ9.out HL9.out HO1.out).mono ?_
    rintro e w7 ⟨rfl, hb⟩
    refine ⟨_, rfl, ?_⟩
    have n0_ := Aside0.mk (blk_below BK8.out hb)
    have n1_ := Aside0.mk (blk_below BK9.out hb)
    have n2_ := Aside0.mk (below_step HB.out hb)
    have n3_ := Aside0.mk (Kd.C_below HJ8.out hb)
    have n4_ := Aside0.mk (Kd.C_below HJ9.out hb)
    clear hb BK8 BK9 HB HJ8 HJ9
    have BK8 := n0_
    have BK9 := n1_
    have HB := n2_
    have HJ8 := n3_
    have HJ9 := n4_
    clear n0_ n1_ n2_ n3_ n4_
    refine hK.out _ _ ⟨(blk_cell BK8.out 0).trans rfl, (blk_cell BK8.out 1).trans rfl, (blk_cell BK8.out 2).trans rfl, (blk_cell BK8.out 3).trans rfl, (blk_cell BK9.out 0).trans rfl, (blk_cell BK9.out 1).trans rfl, (blk_cell BK9.out 2).trans rfl, (blk_cell BK9.out 3).trans rfl⟩ (fun hHeld => ?_)
    clear hK K
    refine norm_ (a' := ?_) ?_ ?_
    rotate_left
    · show Act.put _ (some 38) _ = _
      simp only [Act.put, List.setIfInBounds_toArray, List.set_cons_zero, List.set_cons_succ, i64_w, i32_w]
      rfl
    refine one_ (i := 7) (N := (some 41)) #[true, true, true, true, true, true, true, true, true, true, false, false, false, false, false, false, false, false, false, false, false, false, false, false, false, false, false, false] rfl rfl (one_of HT_.out (by kernel_rfl)) (by decide) (fun K hK => ?_)
    refine goesV_ (f := 23) (op := .tmp 39) Tryd.func23 (by kernel_rfl) rfl #[.slice none 0 0, .slice A1 l1.length c1] (by rfl) rfl rfl rfl (by (try simp only [List.map_toArray, List.map_cons, List.map_nil]); first | done | rfl) ?_
    refine (lists_join none 0 [] A1 c1 l1 _ (Kd.C_nil_ _) (Kd.C_below HR1.out HB.out) (by simp) h1).mono ?_
    rintro e w8 ⟨J41, d41, rfl, hl, hC, hb⟩
    have HL41 := Aside0.mk hl
    have HJ41 := Aside0.mk hC
    clear hl hC
    refine ⟨_, rfl, ?_⟩
    have n0_ := Aside0.mk (blk_below BK8.out hb)
    have n1_ := Aside0.mk (blk_below BK9.out hb)
    have n2_ := Aside0.mk (below_step HB.out hb)
    have n3_ := Aside0.mk (Kd.C_below HJ8.out hb)
    have n4_ := Aside0.mk (Kd.C_below HJ9.out hb)
    clear hb BK8 BK9 HB HJ8 HJ9
    have BK8 := n0_
    have BK9 := n1_
    have HB := n2_
    have HJ8 := n3_
    have HJ9 := n4_
    clear n0_ n1_ n2_ n3_ n4_
    refine hK.out _ _ ⟨(blk_cell BK8.out 0).trans rfl, (blk_cell BK8.out 1).trans rfl, (blk_cell BK8.out 2).trans rfl, (blk_cell BK8.out 3).trans rfl, (blk_cell BK9.out 0).trans rfl, (blk_cell BK9.out 1).trans rfl, (blk_cell BK9.out 2).trans rfl, (blk_cell BK9.out 3).trans rfl⟩ (fun hHeld => ?_)
    clear hK K
    refine norm_ (a' := ?_) ?_ ?_
    rotate_left
    · show Act.put _ (some 41) _ = _
      simp only [Act.put, List.setIfInBounds_toArray, List.set_cons_zero, List.set_cons_succ, i64_w, i32_w]
      rfl
    refine one_ (i := 10) (N := (some 44)) #[true, true, true, true, true, true, true, true, true, true, true, false, false, false, false, false, false, false, false, false, false, false, false, false, false, false, false, false] rfl rfl (one_of HT_.out (by kernel_rfl)) (by decide) (fun K hK => ?_)
    refine goesV_ (f := 23) (op := .tmp 42) Tryd.func23 (by kernel_rfl) rfl #[.slice none 0 0, .slice A2 l2.length c2] (by rfl) rfl rfl rfl (by (try simp only [List.map_toArray, List.map_cons, List.map_nil]); first | done | rfl) ?_
    refine (lists_join none 0 [] A2 c2 l2 _ (Kd.C_nil_ _) (Kd.C_below HR2.out HB.out) (by simp) h2).mono ?_
    rintro e w9 ⟨J44, d44, rfl, hl, hC, hb⟩
    have HL44 := Aside0.mk hl
    have HJ44 := Aside0.mk hC
    clear hl hC
    refine ⟨_, rfl, ?_⟩
    have n0_ := Aside0.mk (blk_below BK8.out hb)
    have n1_ := Aside0.mk (blk_below BK9.out hb)
    have n2_ := Aside0.mk (below_step HB.out hb)
    have n3_ := Aside0.mk (Kd.C_below HJ8.out hb)
    have n4_ := Aside0.mk (Kd.C_below HJ9.out hb)
    have n5_ := Aside0.mk (Kd.C_below HJ41.out hb)
    clear hb BK8 BK9 HB HJ8 HJ9 HJ41
    have BK8 := n0_
    have BK9 := n1_
    have HB := n2_
    have HJ8 := n3_
    have HJ9 := n4_
    have HJ41 := n5_
    clear n0_ n1_ n2_ n3_ n4_ n5_
    refine hK.out _ _ ⟨(blk_cell BK8.out 0).trans rfl, (blk_cell BK8.out 1).trans rfl, (blk_cell BK8.out 2).trans rfl, (blk_cell BK8.out 3).trans rfl, (blk_cell BK9.out 0).trans rfl, (blk_cell BK9.out 1).trans rfl, (blk_cell BK9.out 2).trans rfl, (blk_cell BK9.out 3).trans rfl⟩ (fun hHeld => ?_)
    clear hK K
    refine norm_ (a' := ?_) ?_ ?_
    rotate_left
    · show Act.put _ (some 44) _ = _
      simp only [Act.put, List.setIfInBounds_toArray, List.set_cons_zero, List.set_cons_succ, i64_w, i32_w]
      rfl
    refine one_ (i := 11) (N := (some 45)) #[true, true, true, true, true, true, true, true, true, true, true, true, false, false, false, false, false, false, false, false, false, false, false, false, false, false, false, false] rfl rfl (one_of HT_.out (by kernel_rfl)) (by decide) (fun K hK => ?_)
    refine goes_ Tryd.func22 (by kernel_rfl) rfl #[.agg #[.int .i64 5, .int .i64 0, .string ByteArray.empty, .slice J41 ([] ++ l1).length d41], .agg #[.int .i64 5, .int .i64 0, .string ByteArray.empty, .slice J44 ([] ++ l2).length d44]] (by rfl) rfl rfl (by (try simp only [List.map_toArray, List.map_cons, List.map_nil]); first | done | rfl) ?_
    refine (value_Order.calls k 5 0 ByteArray.empty _ _ ([] ++ l1) 5 0 ByteArray.empty _ _ ([] ++ l2) t _ HJ41.out HL41.out HJ44.out HL44.out HO2.out).mono ?_
    rintro e w10 ⟨rfl, hb⟩
    refine ⟨_, rfl, ?_⟩
    have n0_ := Aside0.mk (blk_below BK8.out hb)
    have n1_ := Aside0.mk (blk_below BK9.out hb)
    have n2_ := Aside0.mk (below_step HB.out hb)
    have n3_ := Aside0.mk (Kd.C_below HJ8.out hb)
    have n4_ := Aside0.mk (Kd.C_below HJ9.out hb)
    have n5_ := Aside0.mk (Kd.C_below HJ41.out hb)
    have n6_ := Aside0.mk (Kd.C_below HJ44.out hb)
    clear hb BK8 BK9 HB HJ8 HJ9 HJ41 HJ44
    have BK8 := n0_
    have BK9 := n1_
    have HB := n2_
    have HJ8 := n3_
    have HJ9 := n4_
    have HJ41 := n5_
    have HJ44 := n6_
    clear n0_ n1_ n2_ n3_ n4_ n5_ n6_
    refine hK.out _ _ ⟨(blk_cell BK8.out 0).trans rfl, (blk_cell BK8.out 1).trans rfl, (blk_cell BK8.out 2).trans rfl, (blk_cell BK8.out 3).trans rfl, (blk_cell BK9.out 0).trans rfl, (blk_cell BK9.out 1).trans rfl, (blk_cell BK9.out 2).trans rfl, (blk_cell BK9.out 3).trans rfl⟩ (fun hHeld => ?_)
    clear hK K
    refine norm_ (a' := ?_) ?_ ?_
    rotate_left
    · show Act.put _ (some 45) _ = _
      simp only [Act.put, List.setIfInBounds_toArray, List.set_cons_zero, List.set_cons_succ, i64_w, i32_w]
      rfl
    refine pure_ (i := 12) (N := (some 46)) (v := ?_) (a' := ?_) #[true, true, true, true, true, true, true, true, true, true, true, true, true, false, false, false, false, false, false, false, false, false, false, false, false, false, false, false] rfl rfl (any_of HT_.out (by kernel_rfl)) (fun _ _ _ h => h) (Or.inl ⟨by rfl, ?_⟩) ?_ ?_
    rotate_left
    · intro w'
      go_simp
      with_reducible rfl
    rotate_left
    · simp only [Act.put, List.setIfInBounds_toArray, List.set_cons_zero, List.set_cons_succ, i64_w, i32_w]
      rfl
    refine pure_ (i := 13) (N := (some 47)) (v := ?_) (a' := ?_) #[true, true, true, true, true, true, true, true, true, true, true, true, true, true, false, false, false, false, false, false, false, false, false, false, false, false, false, false] rfl rfl (any_of HT_.out (by kernel_rfl)) (fun _ _ _ h => h) (Or.inl ⟨by rfl, ?_⟩) ?_ ?_
    rotate_left
    · intro w'
      go_simp
      with_reducible rfl
    rotate_left
    · simp only [Act.put, List.setIfInBounds_toArray, List.set_cons_zero, List.set_cons_succ, i64_w, i32_w]
      rfl
    refine pure_ (i := 14) (N := (some 48)) (v := ?_) (a' := ?_) #[true, true, true, true, true, true, true, true, true, true, true, true, true, true, true, false, false, false, false, false, false, false, false, false, false, false, false, false] rfl rfl (any_of HT_.out (by kernel_rfl)) (fun _ _ _ h => h) (Or.inl ⟨by rfl, ?_⟩) ?_ ?_
    rotate_left
    · intro w'
      go_simp
      with_reducible rfl
    rotate_left
    · simp only [Act.put, List.setIfInBounds_toArray, List.set_cons_zero, List.set_cons_succ, i64_w, i32_w]
      rfl
    refine pure_ (i := 15) (N := (some 49)) (v := ?_) (a' := ?_) #[true, true, true, true, true, true, true, true, true, true, true, true, true, true, true, true, false, false, false, false, false, false, false, false, false, false, false, false] rfl rfl (any_of HT_.out (by kernel_rfl)) (fun _ _ _ h => h) (Or.inl ⟨by rfl, ?_⟩) ?_ ?_
    rotate_left
    · intro w'
      go_simp
      with_reducible rfl
    rotate_left
    · simp only [Act.put, List.setIfInBounds_toArray, List.set_cons_zero, List.set_cons_succ, i64_w, i32_w]
      rfl
    refine pure_ (i := 16) (N := (some 50)) (v := ?_) (a' := ?_) #[true, true, true, true, true, true, true, true, true, true, true, true, true, true, true, true, true, false, false, false, false, false, false, false, false, false, false, false] rfl rfl (any_of HT_.out (by kernel_rfl)) (fun _ _ _ h => h) (Or.inl ⟨by rfl, ?_⟩) ?_ ?_
    rotate_left
    · intro w'
      go_simp
      with_reducible rfl
    rotate_left
    · simp only [Act.put, List.setIfInBounds_toArray, List.set_cons_zero, List.set_cons_succ, i64_w, i32_w]
      rfl
    refine pure_ (i := 17) (N := (some 51)) (v := ?_) (a' := ?_) #[true, true, true, true, true, true, true, true, true, true, true, true, true, true, true, true, true, true, false, false, false, false, false, false, false, false, false, false] rfl rfl (any_of HT_.out (by kernel_rfl)) (fun _ _ _ h => h) (Or.inl ⟨by rfl, ?_⟩) ?_ ?_
    rotate_left
    · intro w'
      go_simp
      with_reducible rfl
    rotate_left
    · simp only [Act.put, List.setIfInBounds_toArray, List.set_cons_zero, List.set_cons_succ, i64_w, i32_w]
      rfl
    refine pure_ (i := 18) (N := (some 52)) (v := ?_) (a' := ?_) #[true, true, true, true, true, true, true, true, true, true, true, true, true, true, true, true, true, true, true, false, false, false, false, false, false, false, false, false] rfl rfl (any_of HT_.out (by kernel_rfl)) (fun _ _ _ h => h) (Or.inl ⟨by rfl, ?_⟩) ?_ ?_
    rotate_left
    · intro w'
      go_simp
      with_reducible rfl
    rotate_left
    · simp only [Act.put, List.setIfInBounds_toArray, List.set_cons_zero, List.set_cons_succ, i64_w, i32_w]
      rfl
    refine pure_ (i := 19) (N := (some 53)) (v := undef) (a' := ?_) #[true, true, true, true, true, true, true, true, true, true, true, true, true, true, true, true, true, true, true, true, false, false, false, false, false, false, false, false] rfl rfl (any_of HT_.out (by kernel_rfl)) (fun _ _ _ h => h) (Or.inr ⟨by rfl, rfl⟩) ?_ ?_
    rotate_left
    · simp only [Act.put, List.setIfInBounds_toArray, List.set_cons_zero, List.set_cons_succ, i64_w, i32_w]
      rfl
    refine pure_ (i := 20) (N := (some 54)) (v := undef) (a' := ?_) #[true, true, true, true, true, true, true, true, true, true, true, true, true, true, true, true, true, true, true, true, true, false, false, false, false, false, false, false] rfl rfl (any_of HT_.out (by kernel_rfl)) (fun _ _ _ h => h) (Or.inr ⟨by rfl, rfl⟩) ?_ ?_
    rotate_left
    · simp only [Act.put, List.setIfInBounds_toArray, List.set_cons_zero, List.set_cons_succ, i64_w, i32_w]
      rfl
    refine take_ (i := 22) (N := (some 56)) (v := undef) (a' := ?_) #[true, true, true, true, true, true, true, true, true, true, true, true, true, true, true, true, true, true, true, true, true, false, true, false, false, false, false, false] rfl rfl (take_ofW HT_.out HW_.out (by kernel_rfl)) (fun _ _ _ h => h) (Or.inr ⟨by rfl, rfl⟩) hHeld ?_ ?_
    rotate_left
    · simp only [Act.put, List.setIfInBounds_toArray, List.set_cons_zero, List.set_cons_succ, i64_w, i32_w]
      rfl
    refine one_ (i := 21) (N := (some 55)) #[true, true, true, true, true, true, true, true, true, true, true, true, true, true, true, true, true, true, true, true, true, true, true, false, false, false, false, false] rfl rfl (one_of HT_.out (by kernel_rfl)) (by decide) (fun K hK => ?_)
    refine unwanted_ (by rfl) ?_
    refine hK.out _ _ ⟨(blk_cell BK8.out 0).trans rfl, (blk_cell BK8.out 1).trans rfl, (blk_cell BK8.out 2).trans rfl, (blk_cell BK8.out 3).trans rfl, (blk_cell BK9.out 0).trans rfl, (blk_cell BK9.out 1).trans rfl, (blk_cell BK9.out 2).trans rfl, (blk_cell BK9.out 3).trans rfl⟩ (fun hHeld => ?_)
    clear hK K
    refine norm_ (a' := ?_) ?_ ?_
    rotate_left
    · show Act.put _ (some 55) _ = _
      simp only [Act.put, List.setIfInBounds_toArray, List.set_cons_zero, List.set_cons_succ, i64_w, i32_w]
      rfl
    refine one_ (i := 23) (N := (some 57)) #[true, true, true, true, true, true, true, true, true, true, true, true, true, true, true, true, true, true, true, true, true, true, true, true, false, false, false, false] rfl rfl (one_of HT_.out (by kernel_rfl)) (by decide) (fun K hK => ?_)
    refine unwanted_ (by rfl) ?_
    refine hK.out _ _ ⟨(blk_cell BK8.out 0).trans rfl, (blk_cell BK8.out 1).trans rfl, (blk_cell BK8.out 2).trans rfl, (blk_cell BK8.out 3).trans rfl, (blk_cell BK9.out 0).trans rfl, (blk_cell BK9.out 1).trans rfl, (blk_cell BK9.out 2).trans rfl, (blk_cell BK9.out 3).trans rfl⟩ (fun hHeld => ?_)
    clear hK K
    refine norm_ (a' := ?_) ?_ ?_
    rotate_left
    · show Act.put _ (some 57) _ = _
      simp only [Act.put, List.setIfInBounds_toArray, List.set_cons_zero, List.set_cons_succ, i64_w, i32_w]
      rfl
    refine pure_ (i := 24) (N := (some 58)) (v := undef) (a' := ?_) #[true, true, true, true, true, true, true, true, true, true, true, true, true, true, true, true, true, true, true, true, true, true, true, true, true, false, false, false] rfl rfl (any_of HT_.out (by kernel_rfl)) (fun _ _ _ h => h) (Or.inr ⟨by rfl, rfl⟩) ?_ ?_
    rotate_left
    · simp only [Act.put, List.setIfInBounds_toArray, List.set_cons_zero, List.set_cons_succ, i64_w, i32_w]
      rfl
    refine pure_ (i := 25) (N := (some 59)) (v := ?_) (a' := ?_) #[true, true, true, true, true, true, true, true, true, true, true, true, true, true, true, true, true, true, true, true, true, true, true, true, true, true, false, false] rfl rfl (any_of HT_.out (by kernel_rfl)) (fun _ _ _ h => h) (Or.inl ⟨by rfl, ?_⟩) ?_ ?_
    rotate_left
    · intro w'
      go_simp
      with_reducible rfl
    rotate_left
    · simp only [Act.put, List.setIfInBounds_toArray, List.set_cons_zero, List.set_cons_succ, i64_w, i32_w]
      rfl
    refine pure_ (i := 26) (N := (some 60)) (v := ?_) (a' := ?_) #[true, true, true, true, true, true, true, true, true, true, true, true, true, true, true, true, true, true, true, true, true, true, true, true, true, true, true, false] rfl rfl (any_of HT_.out (by kernel_rfl)) (fun _ _ _ h => h) (Or.inl ⟨by rfl, ?_⟩) ?_ ?_
    rotate_left
    · intro w'
      go_simp
      with_reducible rfl
    rotate_left
    · simp only [Act.put, List.setIfInBounds_toArray, List.set_cons_zero, List.set_cons_succ, i64_w, i32_w]
      rfl
    refine pure_ (i := 27) (N := (some 6)) (v := ?_) (a' := ?_) #[true, true, true, true, true, true, true, true, true, true, true, true, true, true, true, true, true, true, true, true, true, true, true, true, true, true, true, true] rfl rfl (any_of HT_.out (by kernel_rfl)) (fun _ _ _ h => h) (Or.inl ⟨by rfl, ?_⟩) ?_ ?_
    rotate_left
    · intro w'
      go_simp
      with_reducible rfl
    rotate_left
    · simp only [Act.put, List.setIfInBounds_toArray, List.set_cons_zero, List.set_cons_succ, i64_w, i32_w]
      rfl
    refine done_ (done_of HT_.out (by kernel_rfl)) ?_
    go_wp2
    go_ret
    exact ⟨rfl, HB.out⟩
  · have HO3 := Aside0.mk (ho3 hz)
    have hz0 : ((l1.length : Int) == 0) = false := by rw [beq_eq_false_iff_ne]; intro h; exact hz (List.length_eq_zero_iff.1 (by omega))
    have hz1 : decide ((l1.length : Int) = 0) = false := decide_eq_false (fun h => hz (List.length_eq_zero_iff.1 (by omega)))
    clear hz
    have n0_ := Aside0.mk (blk_drew BK8.out)
    have n1_ := Aside0.mk (blk_drew BK9.out)
    have n2_ := Aside0.mk (below_drew1 HB.out)
    have n3_ := Aside0.mk (Kd.C_drew HJ8.out)
    have n4_ := Aside0.mk (Kd.C_drew HJ9.out)
    clear BK8 BK9 HB HJ8 HJ9
    have BK8 := n0_
    have BK9 := n1_
    have HB := n2_
    have HJ8 := n3_
    have HJ9 := n4_
    clear n0_ n1_ n2_ n3_ n4_
    refine start_ (n := 28) (S := fun w' => w'.cell? ⟨g8, 0, none⟩ = some (.int .i64 5) ∧ w'.cell? ⟨g8, 1, none⟩ = some (.int .i64 0) ∧ w'.cell? ⟨g8, 2, none⟩ = some (.string ByteArray.empty) ∧ w'.cell? ⟨g8, 3, none⟩ = some (.slice J8 x8.length d8) ∧ w'.cell? ⟨g9, 0, none⟩ = some (.int .i64 5) ∧ w'.cell? ⟨g9, 1, none⟩ = some (.int .i64 0) ∧ w'.cell? ⟨g9, 2, none⟩ = some (.string ByteArray.empty) ∧ w'.cell? ⟨g9, 3, none⟩ = some (.slice J9 x9.length d9)) (ds := []) #[false, false, false, false, false, false, false, false, false, false, false, false, false, false, false, false, false, false, false, false, false, false, false, false, false, false, false, false] (by kernel_rfl) rfl rfl ⟨(blk_cell BK8.out 0).trans rfl, (blk_cell BK8.out 1).trans rfl, (blk_cell BK8.out 2).trans rfl, (blk_cell BK8.out 3).trans rfl, (blk_cell BK9.out 0).trans rfl, (blk_cell BK9.out 1).trans rfl, (blk_cell BK9.out 2).trans rfl, (blk_cell BK9.out 3).trans rfl⟩ (fun hHeld => ?_)
    refine with_tabW switchyardlaw06_ValueLists.tab7 switchyardlaw06_ValueLists.bits7 (fun HT_ HW_ => ?_)
    generalize w4.drew = w5 at BK8 BK9 HB HJ8 HJ9 hHeld ⊢
    refine one_ (i := 0) (N := (some 34)) #[true, false, false, false, false, false, false, false, false, false, false, false, false, false, false, false, false, false, false, false, false, false, false, false, false, false, false, false] rfl rfl (one_of HT_.out (by kernel_rfl)) (by decide) (fun K hK => ?_)
    refine goes_ Tryd.func10 (by kernel_rfl) rfl #[] (by rfl) rfl rfl (by (try simp only [List.map_toArray, List.map_cons, List.map_nil]); first | done | rfl) ?_
    refine (switchyardlaw06_awake.calls k true _ HA.out (Tabs.below HT.out HB.out)).mono ?_
    rintro e w6 ⟨rfl, hb⟩
    refine ⟨_, rfl, ?_⟩
    have n0_ := Aside0.mk (blk_below BK8.out hb)
    have n1_ := Aside0.mk (blk_below BK9.out hb)
    have n2_ := Aside0.mk (below_step HB.out hb)
    have n3_ := Aside0.mk (Kd.C_below HJ8.out hb)
    have n4_ := Aside0.mk (Kd.C_below HJ9.out hb)
    clear hb BK8 BK9 HB HJ8 HJ9
    have BK8 := n0_
    have BK9 := n1_
    have HB := n2_
    have HJ8 := n3_
    have HJ9 := n4_
    clear n0_ n1_ n2_ n3_ n4_
    refine hK.out _ _ ⟨(blk_cell BK8.out 0).trans rfl, (blk_cell BK8.out 1).trans rfl, (blk_cell BK8.out 2).trans rfl, (blk_cell BK8.out 3).trans rfl, (blk_cell BK9.out 0).trans rfl, (blk_cell BK9.out 1).trans rfl, (blk_cell BK9.out 2).trans rfl, (blk_cell BK9.out 3).trans rfl⟩ (fun hHeld => ?_)
    clear hK K
    refine norm_ (a' := ?_) ?_ ?_
    rotate_left
    · show Act.put _ (some 34) _ = _
      simp only [Act.put, List.setIfInBounds_toArray, List.set_cons_zero, List.set_cons_succ, i64_w, i32_w]
      rfl
    refine pure_ (i := 1) (N := (some 35)) (v := ?_) (a' := ?_) #[true, true, false, false, false, false, false, false, false, false, false, false, false, false, false, false, false, false, false, false, false, false, false, false, false, false, false, false] rfl rfl (any_of HT_.out (by kernel_rfl)) (fun _ _ _ h => h) (Or.inl ⟨by rfl, ?_⟩) ?_ ?_
    rotate_left
    · intro w'
      go_simp
      with_reducible rfl
    rotate_left
    · simp only [Act.put, List.setIfInBounds_toArray, List.set_cons_zero, List.set_cons_succ, i64_w, i32_w]
      rfl
    refine take_ (i := 2) (N := (some 36)) (v := ?_) (a' := ?_) #[true, true, true, false, false, false, false, false, false, false, false, false, false, false, false, false, false, false, false, false, false, false, false, false, false, false, false, false] rfl rfl (take_ofW HT_.out HW_.out (by kernel_rfl)) (fun _ _ _ h => h) (Or.inl ⟨by rfl, ?_⟩) hHeld ?_ ?_
    rotate_left
    · rintro w' ⟨s0, s1, s2, s3, s4, s5, s6, s7⟩
      go_simp
      with_reducible rfl
    rotate_left
    · simp only [Act.put, List.setIfInBounds_toArray, List.set_cons_zero, List.set_cons_succ, i64_w, i32_w]
      rfl
    refine take_ (i := 3) (N := (some 37)) (v := ?_) (a' := ?_) #[true, true, true, true, false, false, false, false, false, false, false, false, false, false, false, false, false, false, false, false, false, false, false, false, false, false, false, false] rfl rfl (take_ofW HT_.out HW_.out (by kernel_rfl)) (fun _ _ _ h => h) (Or.inl ⟨by rfl, ?_⟩) hHeld ?_ ?_
    rotate_left
    · rintro w' ⟨s0, s1, s2, s3, s4, s5, s6, s7⟩
      go_simp
      with_reducible rfl
    rotate_left
    · simp only [Act.put, List.setIfInBounds_toArray, List.set_cons_zero, List.set_cons_succ, i64_w, i32_w]
      rfl
    refine pure_ (i := 5) (N := (some 39)) (v := ?_) (a' := ?_) #[true, true, true, true, false, true, false, false, false, false, false, false, false, false, false, false, false, false, false, false, false, false, false, false, false, false, false, false] rfl rfl (any_of HT_.out (by kernel_rfl)) (fun _ _ _ h => h) (Or.inl ⟨by rfl, ?_⟩) ?_ ?_
    rotate_left
    · intro w'
      go_simp
      with_reducible rfl
    rotate_left
    · simp only [Act.put, List.setIfInBounds_toArray, List.set_cons_zero, List.set_cons_succ, i64_w, i32_w]
      rfl
    refine pure_ (i := 6) (N := (some 40)) (v := ?_) (a' := ?_) #[true, true, true, true, false, true, true, false, false, false, false, false, false, false, false, false, false, false, false, false, false, false, false, false, false, false, false, false] rfl rfl (any_of HT_.out (by kernel_rfl)) (fun _ _ _ h => h) (Or.inl ⟨by rfl, ?_⟩) ?_ ?_
    rotate_left
    · intro w'
      go_simp
      with_reducible rfl
    rotate_left
    · simp only [Act.put, List.setIfInBounds_toArray, List.set_cons_zero, List.set_cons_succ, i64_w, i32_w]
      rfl
    refine pure_ (i := 8) (N := (some 42)) (v := ?_) (a' := ?_) #[true, true, true, true, false, true, true, false, true, false, false, false, false, false, false, false, false, false, false, false, false, false, false, false, false, false, false, false] rfl rfl (any_of HT_.out (by kernel_rfl)) (fun _ _ _ h => h) (Or.inl ⟨by rfl, ?_⟩) ?_ ?_
    rotate_left
    · intro w'
      go_simp
      with_reducible rfl
    rotate_left
    · simp only [Act.put, List.setIfInBounds_toArray, List.set_cons_zero, List.set_cons_succ, i64_w, i32_w]
      rfl
    refine pure_ (i := 9) (N := (some 43)) (v := ?_) (a' := ?_) #[true, true, true, true, false, true, true, false, true, true, false, false, false, false, false, false, false, false, false, false, false, false, false, false, false, false, false, false] rfl rfl (any_of HT_.out (by kernel_rfl)) (fun _ _ _ h => h) (Or.inl ⟨by rfl, ?_⟩) ?_ ?_
    rotate_left
    · intro w'
      go_simp
      with_reducible rfl
    rotate_left
    · simp only [Act.put, List.setIfInBounds_toArray, List.set_cons_zero, List.set_cons_succ, i64_w, i32_w]
      rfl
    refine one_ (i := 4) (N := (some 38)) #[true, true, true, true, true, true, true, false, true, true, false, false, false, false, false, false, false, false, false, false, false, false, false, false, false, false, false, false] rfl rfl (one_of HT_.out (by kernel_rfl)) (by decide) (fun K hK => ?_)
    refine goes_ Tryd.func22 (by kernel_rfl) rfl #[.agg #[.int .i64 5, .int .i64 0, .string ByteArray.empty, .slice J8 x8.length d8], .agg #[.int .i64 5, .int .i64 0, .string ByteArray.empty, .slice J9 x9.length d9]] (by rfl) rfl rfl (by (try simp only [List.map_toArray, List.map_cons, List.map_nil]); first | done | rfl) ?_
    refine (value_Order.calls k 5 0 ByteArray.empty _ _ x8 5 0 ByteArray.empty _ _ x9 t _ HJ8.out HL8.out HJ9.out HL9.out HO1.out).mono ?_
    rintro e w7 ⟨rfl, hb⟩
    refine ⟨_, rfl, ?_⟩
    have n0_ := Aside0.mk (blk_below BK8.out hb)
    have n1_ := Aside0.mk (blk_below BK9.out hb)
    have n2_ := Aside0.mk (below_step HB.out hb)
    have n3_ := Aside0.mk (Kd.C_below HJ8.out hb)
    have n4_ := Aside0.mk (Kd.C_below HJ9.out hb)
    clear hb BK8 BK9 HB HJ8 HJ9
    have BK8 := n0_
    have BK9 := n1_
    have HB := n2_
    have HJ8 := n3_
    have HJ9 := n4_
    clear n0_ n1_ n2_ n3_ n4_
    refine hK.out _ _ ⟨(blk_cell BK8.out 0).trans rfl, (blk_cell BK8.out 1).trans rfl, (blk_cell BK8.out 2).trans rfl, (blk_cell BK8.out 3).trans rfl, (blk_cell BK9.out 0).trans rfl, (blk_cell BK9.out 1).trans rfl, (blk_cell BK9.out 2).trans rfl, (blk_cell BK9.out 3).trans rfl⟩ (fun hHeld => ?_)
    clear hK K
    refine norm_ (a' := ?_) ?_ ?_
    rotate_left
    · show Act.put _ (some 38) _ = _
      simp only [Act.put, List.setIfInBounds_toArray, List.set_cons_zero, List.set_cons_succ, i64_w, i32_w]
      rfl
    refine one_ (i := 7) (N := (some 41)) #[true, true, true, true, true, true, true, true, true, true, false, false, false, false, false, false, false, false, false, false, false, false, false, false, false, false, false, false] rfl rfl (one_of HT_.out (by kernel_rfl)) (by decide) (fun K hK => ?_)
    refine goesV_ (f := 23) (op := .tmp 39) Tryd.func23 (by kernel_rfl) rfl #[.slice none 0 0, .slice A1 l1.length c1] (by rfl) rfl rfl rfl (by (try simp only [List.map_toArray, List.map_cons, List.map_nil]); first | done | rfl) ?_
    refine (lists_join none 0 [] A1 c1 l1 _ (Kd.C_nil_ _) (Kd.C_below HR1.out HB.out) (by simp) h1).mono ?_
    rintro e w8 ⟨J41, d41, rfl, hl, hC, hb⟩
    have HL41 := Aside0.mk hl
    have HJ41 := Aside0.mk hC
    clear hl hC
    refine ⟨_, rfl, ?_⟩
    have n0_ := Aside0.mk (blk_below BK8.out hb)
    have n1_ := Aside0.mk (blk_below BK9.out hb)
    have n2_ := Aside0.mk (below_step HB.out hb)
    have n3_ := Aside0.mk (Kd.C_below HJ8.out hb)
    have n4_ := Aside0.mk (Kd.C_below HJ9.out hb)
    clear hb BK8 BK9 HB HJ8 HJ9
    have BK8 := n0_
    have BK9 := n1_
    have HB := n2_
    have HJ8 := n3_
    have HJ9 := n4_
    clear n0_ n1_ n2_ n3_ n4_
    refine hK.out _ _ ⟨(blk_cell BK8.out 0).trans rfl, (blk_cell BK8.out 1).trans rfl, (blk_cell BK8.out 2).trans rfl, (blk_cell BK8.out 3).trans rfl, (blk_cell BK9.out 0).trans rfl, (blk_cell BK9.out 1).trans rfl, (blk_cell BK9.out 2).trans rfl, (blk_cell BK9.out 3).trans rfl⟩ (fun hHeld => ?_)
    clear hK K
    refine norm_ (a' := ?_) ?_ ?_
    rotate_left
    · show Act.put _ (some 41) _ = _
      simp only [Act.put, List.setIfInBounds_toArray, List.set_cons_zero, List.set_cons_succ, i64_w, i32_w]
      rfl
    refine one_ (i := 10) (N := (some 44)) #[true, true, true, true, true, true, true, true, true, true, true, false, false, false, false, false, false, false, false, false, false, false, false, false, false, false, false, false] rfl rfl (one_of HT_.out (by kernel_rfl)) (by decide) (fun K hK => ?_)
    refine goesV_ (f := 23) (op := .tmp 42) Tryd.func23 (by kernel_rfl) rfl #[.slice none 0 0, .slice A2 l2.length c2] (by rfl) rfl rfl rfl (by (try simp only [List.map_toArray, List.map_cons, List.map_nil]); first | done | rfl) ?_
    refine (lists_join none 0 [] A2 c2 l2 _ (Kd.C_nil_ _) (Kd.C_below HR2.out HB.out) (by simp) h2).mono ?_
    rintro e w9 ⟨J44, d44, rfl, hl, hC, hb⟩
    have HL44 := Aside0.mk hl
    have HJ44 := Aside0.mk hC
    clear hl hC
    refine ⟨_, rfl, ?_⟩
    have n0_ := Aside0.mk (blk_below BK8.out hb)
    have n1_ := Aside0.mk (blk_below BK9.out hb)
    have n2_ := Aside0.mk (below_step HB.out hb)
    have n3_ := Aside0.mk (Kd.C_below HJ8.out hb)
    have n4_ := Aside0.mk (Kd.C_below HJ9.out hb)
    have n5_ := Aside0.mk (Kd.C_below HJ41.out hb)
    clear hb BK8 BK9 HB HJ8 HJ9 HJ41
    have BK8 := n0_
    have BK9 := n1_
    have HB := n2_
    have HJ8 := n3_
    have HJ9 := n4_
    have HJ41 := n5_
    clear n0_ n1_ n2_ n3_ n4_ n5_
    refine hK.out _ _ ⟨(blk_cell BK8.out 0).trans rfl, (blk_cell BK8.out 1).trans rfl, (blk_cell BK8.out 2).trans rfl, (blk_cell BK8.out 3).trans rfl, (blk_cell BK9.out 0).trans rfl, (blk_cell BK9.out 1).trans rfl, (blk_cell BK9.out 2).trans rfl, (blk_cell BK9.out 3).trans rfl⟩ (fun hHeld => ?_)
    clear hK K
    refine norm_ (a' := ?_) ?_ ?_
    rotate_left
    · show Act.put _ (some 44) _ = _
      simp only [Act.put, List.setIfInBounds_toArray, List.set_cons_zero, List.set_cons_succ, i64_w, i32_w]
      rfl
    refine one_ (i := 11) (N := (some 45)) #[true, true, true, true, true, true, true, true, true, true, true, true, false, false, false, false, false, false, false, false, false, false, false, false, false, false, false, false] rfl rfl (one_of HT_.out (by kernel_rfl)) (by decide) (fun K hK => ?_)
    refine goes_ Tryd.func22 (by kernel_rfl) rfl #[.agg #[.int .i64 5, .int .i64 0, .string ByteArray.empty, .slice J41 ([] ++ l1).length d41], .agg #[.int .i64 5, .int .i64 0, .string ByteArray.empty, .slice J44 ([] ++ l2).length d44]] (by rfl) rfl rfl (by (try simp only [List.map_toArray, List.map_cons, List.map_nil]); first | done | rfl) ?_
    refine (value_Order.calls k 5 0 ByteArray.empty _ _ ([] ++ l1) 5 0 ByteArray.empty _ _ ([] ++ l2) t _ HJ41.out HL41.out HJ44.out HL44.out HO2.out).mono ?_
    rintro e w10 ⟨rfl, hb⟩
    refine ⟨_, rfl, ?_⟩
    have n0_ := Aside0.mk (blk_below BK8.out hb)
    have n1_ := Aside0.mk (blk_below BK9.out hb)
    have n2_ := Aside0.mk (below_step HB.out hb)
    have n3_ := Aside0.mk (Kd.C_below HJ8.out hb)
    have n4_ := Aside0.mk (Kd.C_below HJ9.out hb)
    have n5_ := Aside0.mk (Kd.C_below HJ41.out hb)
    have n6_ := Aside0.mk (Kd.C_below HJ44.out hb)
    clear hb BK8 BK9 HB HJ8 HJ9 HJ41 HJ44
    have BK8 := n0_
    have BK9 := n1_
    have HB := n2_
    have HJ8 := n3_
    have HJ9 := n4_
    have HJ41 := n5_
    have HJ44 := n6_
    clear n0_ n1_ n2_ n3_ n4_ n5_ n6_
    refine hK.out _ _ ⟨(blk_cell BK8.out 0).trans rfl, (blk_cell BK8.out 1).trans rfl, (blk_cell BK8.out 2).trans rfl, (blk_cell BK8.out 3).trans rfl, (blk_cell BK9.out 0).trans rfl, (blk_cell BK9.out 1).trans rfl, (blk_cell BK9.out 2).trans rfl, (blk_cell BK9.out 3).trans rfl⟩ (fun hHeld => ?_)
    clear hK K
    refine norm_ (a' := ?_) ?_ ?_
    rotate_left
    · show Act.put _ (some 45) _ = _
      simp only [Act.put, List.setIfInBounds_toArray, List.set_cons_zero, List.set_cons_succ, i64_w, i32_w]
      rfl
    refine pure_ (i := 12) (N := (some 46)) (v := ?_) (a' := ?_) #[true, true, true, true, true, true, true, true, true, true, true, true, true, false, false, false, false, false, false, false, false, false, false, false, false, false, false, false] rfl rfl (any_of HT_.out (by kernel_rfl)) (fun _ _ _ h => h) (Or.inl ⟨by rfl, ?_⟩) ?_ ?_
    rotate_left
    · intro w'
      go_simp
      with_reducible rfl
    rotate_left
    · simp only [Act.put, List.setIfInBounds_toArray, List.set_cons_zero, List.set_cons_succ, i64_w, i32_w]
      rfl
    refine pure_ (i := 13) (N := (some 47)) (v := ?_) (a' := ?_) #[true, true, true, true, true, true, true, true, true, true, true, true, true, true, false, false, false, false, false, false, false, false, false, false, false, false, false, false] rfl rfl (any_of HT_.out (by kernel_rfl)) (fun _ _ _ h => h) (Or.inl ⟨by rfl, ?_⟩) ?_ ?_
    rotate_left
    · intro w'
      go_simp
      with_reducible rfl
    rotate_left
    · simp only [Act.put, List.setIfInBounds_toArray, List.set_cons_zero, List.set_cons_succ, i64_w, i32_w]
      rfl
    refine pure_ (i := 14) (N := (some 48)) (v := ?_) (a' := ?_) #[true, true, true, true, true, true, true, true, true, true, true, true, true, true, true, false, false, false, false, false, false, false, false, false, false, false, false, false] rfl rfl (any_of HT_.out (by kernel_rfl)) (fun _ _ _ h => h) (Or.inl ⟨by rfl, ?_⟩) ?_ ?_
    rotate_left
    · intro w'
      go_simp
      with_reducible rfl
    rotate_left
    · simp only [Act.put, List.setIfInBounds_toArray, List.set_cons_zero, List.set_cons_succ, i64_w, i32_w]
      rfl
    refine pure_ (i := 15) (N := (some 49)) (v := ?_) (a' := ?_) #[true, true, true, true, true, true, true, true, true, true, true, true, true, true, true, true, false, false, false, false, false, false, false, false, false, false, false, false] rfl rfl (any_of HT_.out (by kernel_rfl)) (fun _ _ _ h => h) (Or.inl ⟨by rfl, ?_⟩) ?_ ?_
    rotate_left
    · intro w'
      go_simp
      with_reducible rfl
    rotate_left
    · simp only [Act.put, List.setIfInBounds_toArray, List.set_cons_zero, List.set_cons_succ, i64_w, i32_w]
      rfl
    refine pure_ (i := 16) (N := (some 50)) (v := ?_) (a' := ?_) #[true, true, true, true, true, true, true, true, true, true, true, true, true, true, true, true, true, false, false, false, false, false, false, false, false, false, false, false] rfl rfl (any_of HT_.out (by kernel_rfl)) (fun _ _ _ h => h) (Or.inl ⟨by rfl, ?_⟩) ?_ ?_
    rotate_left
    · intro w'
      go_simp
      with_reducible rfl
    rotate_left
    · simp only [Act.put, List.setIfInBounds_toArray, List.set_cons_zero, List.set_cons_succ, i64_w, i32_w]
      rfl
    refine pure_ (i := 17) (N := (some 51)) (v := ?_) (a' := ?_) #[true, true, true, true, true, true, true, true, true, true, true, true, true, true, true, true, true, true, false, false, false, false, false, false, false, false, false, false] rfl rfl (any_of HT_.out (by kernel_rfl)) (fun _ _ _ h => h) (Or.inl ⟨by rfl, ?_⟩) ?_ ?_
    rotate_left
    · intro w'
      go_simp
      with_reducible rfl
    rotate_left
    · simp only [Act.put, List.setIfInBounds_toArray, List.set_cons_zero, List.set_cons_succ, i64_w, i32_w]
      rfl
    refine pure_ (i := 18) (N := (some 52)) (v := ?_) (a' := ?_) #[true, true, true, true, true, true, true, true, true, true, true, true, true, true, true, true, true, true, true, false, false, false, false, false, false, false, false, false] rfl rfl (any_of HT_.out (by kernel_rfl)) (fun _ _ _ h => h) (Or.inl ⟨by rfl, ?_⟩) ?_ ?_
    rotate_left
    · intro w'
      go_simp
      with_reducible rfl
    rotate_left
    · simp only [Act.put, List.setIfInBounds_toArray, List.set_cons_zero, List.set_cons_succ, i64_w, i32_w]
      rfl
    refine pure_ (i := 19) (N := (some 53)) (v := ?_) (a' := ?_) #[true, true, true, true, true, true, true, true, true, true, true, true, true, true, true, true, true, true, true, true, false, false, false, false, false, false, false, false] rfl rfl (any_of HT_.out (by kernel_rfl)) (fun _ _ _ h => h) (Or.inl ⟨by rfl, ?_⟩) ?_ ?_
    rotate_left
    · intro w'
      go_simp
      with_reducible rfl
    rotate_left
    · simp only [Act.put, List.setIfInBounds_toArray, List.set_cons_zero, List.set_cons_succ, i64_w, i32_w]
      rfl
    refine pure_ (i := 20) (N := (some 54)) (v := ?_) (a' := ?_) #[true, true, true, true, true, true, true, true, true, true, true, true, true, true, true, true, true, true, true, true, true, false, false, false, false, false, false, false] rfl rfl (any_of HT_.out (by kernel_rfl)) (fun _ _ _ h => h) (Or.inl ⟨by rfl, ?_⟩) ?_ ?_
    rotate_left
    · intro w'
      go_simp
      with_reducible rfl
    rotate_left
    · simp only [Act.put, List.setIfInBounds_toArray, List.set_cons_zero, List.set_cons_succ, i64_w, i32_w]
      rfl
    refine take_ (i := 22) (N := (some 56)) (v := ?_) (a' := ?_) #[true, true, true, true, true, true, true, true, true, true, true, true, true, true, true, true, true, true, true, true, true, false, true, false, false, false, false, false] rfl rfl (take_ofW HT_.out HW_.out (by kernel_rfl)) (fun _ _ _ h => h) (Or.inl ⟨by rfl, ?_⟩) hHeld ?_ ?_
    rotate_left
    · rintro w' ⟨s0, s1, s2, s3, s4, s5, s6, s7⟩
      go_simp
      with_reducible rfl
    rotate_left
    · simp only [Act.put, List.setIfInBounds_toArray, List.set_cons_zero, List.set_cons_succ, i64_w, i32_w]
      rfl
    refine one_ (i := 21) (N := (some 55)) #[true, true, true, true, true, true, true, true, true, true, true, true, true, true, true, true, true, true, true, true, true, true, true, false, false, false, false, false] rfl rfl (one_of HT_.out (by kernel_rfl)) (by decide) (fun K hK => ?_)
    refine goesV_ (f := 23) (op := .tmp 53) Tryd.func23 (by kernel_rfl) rfl #[.slice A0 l0.length c0, .slice none 0 0] (by rfl) rfl rfl rfl (by (try simp only [List.map_toArray, List.map_cons, List.map_nil]); first | done | rfl) ?_
    refine (lists_join A0 c0 l0 none 0 [] _ (Kd.C_below HR0.out HB.out) (Kd.C_nil_ _) h0 (by simp)).mono ?_
    rintro e w11 ⟨J55, d55, rfl, hl, hC, hb⟩
    have HL55 := Aside0.mk hl
    have HJ55 := Aside0.mk hC
    clear hl hC
    refine ⟨_, rfl, ?_⟩
    have n0_ := Aside0.mk (blk_below BK8.out hb)
    have n1_ := Aside0.mk (blk_below BK9.out hb)
    have n2_ := Aside0.mk (below_step HB.out hb)
    have n3_ := Aside0.mk (Kd.C_below HJ8.out hb)
    have n4_ := Aside0.mk (Kd.C_below HJ9.out hb)
    have n5_ := Aside0.mk (Kd.C_below HJ41.out hb)
    have n6_ := Aside0.mk (Kd.C_below HJ44.out hb)
    clear hb BK8 BK9 HB HJ8 HJ9 HJ41 HJ44
    have BK8 := n0_
    have BK9 := n1_
    have HB := n2_
    have HJ8 := n3_
    have HJ9 := n4_
    have HJ41 := n5_
    have HJ44 := n6_
    clear n0_ n1_ n2_ n3_ n4_ n5_ n6_
    refine hK.out _ _ ⟨(blk_cell BK8.out 0).trans rfl, (blk_cell BK8.out 1).trans rfl, (blk_cell BK8.out 2).trans rfl, (blk_cell BK8.out 3).trans rfl, (blk_cell BK9.out 0).trans rfl, (blk_cell BK9.out 1).trans rfl, (blk_cell BK9.out 2).trans rfl, (blk_cell BK9.out 3).trans rfl⟩ (fun hHeld => ?_)
    clear hK K
    refine norm_ (a' := ?_) ?_ ?_
    rotate_left
    · show Act.put _ (some 55) _ = _
      simp only [Act.put, List.setIfInBounds_toArray, List.set_cons_zero, List.set_cons_succ, i64_w, i32_w]
      rfl
    refine one_ (i := 23) (N := (some 57)) #[true, true, true, true, true, true, true, true, true, true, true, true, true, true, true, true, true, true, true, true, true, true, true, true, false, false, false, false] rfl rfl (one_of HT_.out (by kernel_rfl)) (by decide) (fun K hK => ?_)
    refine goes_ Tryd.func22 (by kernel_rfl) rfl #[.agg #[.int .i64 5, .int .i64 0, .string ByteArray.empty, .slice J55 (l0 ++ []).length d55], .agg #[.int .i64 5, .int .i64 0, .string ByteArray.empty, .slice J8 x8.length d8]] (by rfl) rfl rfl (by (try simp only [List.map_toArray, List.map_cons, List.map_nil]); first | done | rfl) ?_
    refine (value_Order.calls k 5 0 ByteArray.empty _ _ (l0 ++ []) 5 0 ByteArray.empty _ _ x8 (-1) _ HJ55.out HL55.out HJ8.out HL8.out HO3.out).mono ?_
    rintro e w12 ⟨rfl, hb⟩
    refine ⟨_, rfl, ?_⟩
    have n0_ := Aside0.mk (blk_below BK8.out hb)
    have n1_ := Aside0.mk (blk_below BK9.out hb)
    have n2_ := Aside0.mk (below_step HB.out hb)
    have n3_ := Aside0.mk (Kd.C_below HJ8.out hb)
    have n4_ := Aside0.mk (Kd.C_below HJ9.out hb)
    have n5_ := Aside0.mk (Kd.C_below HJ41.out hb)
    have n6_ := Aside0.mk (Kd.C_below HJ44.out hb)
    have n7_ := Aside0.mk (Kd.C_below HJ55.out hb)
    clear hb BK8 BK9 HB HJ8 HJ9 HJ41 HJ44 HJ55
    have BK8 := n0_
    have BK9 := n1_
    have HB := n2_
    have HJ8 := n3_
    have HJ9 := n4_
    have HJ41 := n5_
    have HJ44 := n6_
    have HJ55 := n7_
    clear n0_ n1_ n2_ n3_ n4_ n5_ n6_ n7_
    refine hK.out _ _ ⟨(blk_cell BK8.out 0).trans rfl, (blk_cell BK8.out 1).trans rfl, (blk_cell BK8.out 2).trans rfl, (blk_cell BK8.out 3).trans rfl, (blk_cell BK9.out 0).trans rfl, (blk_cell BK9.out 1).trans rfl, (blk_cell BK9.out 2).trans rfl, (blk_cell BK9.out 3).trans rfl⟩ (fun hHeld => ?_)
    clear hK K
    refine norm_ (a' := ?_) ?_ ?_
    rotate_left
    · show Act.put _ (some 57) _ = _
      simp only [Act.put, List.setIfInBounds_toArray, List.set_cons_zero, List.set_cons_succ, i64_w, i32_w]
      rfl
    refine pure_ (i := 24) (N := (some 58)) (v := ?_) (a' := ?_) #[true, true, true, true, true, true, true, true, true, true, true, true, true, true, true, true, true, true, true, true, true, true, true, true, true, false, false, false] rfl rfl (any_of HT_.out (by kernel_rfl)) (fun _ _ _ h => h) (Or.inl ⟨by rfl, ?_⟩) ?_ ?_
    rotate_left
    · intro w'
      go_simp
      with_reducible rfl
    rotate_left
    · simp only [Act.put, List.setIfInBounds_toArray, List.set_cons_zero, List.set_cons_succ, i64_w, i32_w]
      rfl
    refine pure_ (i := 25) (N := (some 59)) (v := ?_) (a' := ?_) #[true, true, true, true, true, true, true, true, true, true, true, true, true, true, true, true, true, true, true, true, true, true, true, true, true, true, false, false] rfl rfl (any_of HT_.out (by kernel_rfl)) (fun _ _ _ h => h) (Or.inl ⟨by rfl, ?_⟩) ?_ ?_
    rotate_left
    · intro w'
      go_simp
      with_reducible rfl
    rotate_left
    · simp only [Act.put, List.setIfInBounds_toArray, List.set_cons_zero, List.set_cons_succ, i64_w, i32_w]
      rfl
    refine pure_ (i := 26) (N := (some 60)) (v := ?_) (a' := ?_) #[true, true, true, true, true, true, true, true, true, true, true, true, true, true, true, true, true, true, true, true, true, true, true, true, true, true, true, false] rfl rfl (any_of HT_.out (by kernel_rfl)) (fun _ _ _ h => h) (Or.inl ⟨by rfl, ?_⟩) ?_ ?_
    rotate_left
    · intro w'
      go_simp
      with_reducible rfl
    rotate_left
    · simp only [Act.put, List.setIfInBounds_toArray, List.set_cons_zero, List.set_cons_succ, i64_w, i32_w]
      rfl
    refine pure_ (i := 27) (N := (some 6)) (v := ?_) (a' := ?_) #[true, true, true, true, true, true, true, true, true, true, true, true, true, true, true, true, true, true, true, true, true, true, true, true, true, true, true, true] rfl rfl (any_of HT_.out (by kernel_rfl)) (fun _ _ _ h => h) (Or.inl ⟨by rfl, ?_⟩) ?_ ?_
    rotate_left
    · intro w'
      go_simp
      with_reducible rfl
    rotate_left
    · simp only [Act.put, List.setIfInBounds_toArray, List.set_cons_zero, List.set_cons_succ, i64_w, i32_w]
      rfl
    refine done_ (done_of HT_.out (by kernel_rfl)) ?_
    go_wp2
    go_ret
    exact ⟨rfl, HB.out⟩
set_option maxHeartbeats 1600000 in
theorem lists_walk2 (A0 : Option Addr) (c0 : Nat) (l0 : (List Int)) (A1 : Option Addr) (c1 : Nat) (l1 : (List Int)) (A2 : Option Addr) (c2 : Nat) (l2 : (List Int)) (W : World) (h : ¬ (l0.length ≤ 5 ∧ l1.length ≤ 5 ∧ l2.length ≤ 5)) (k : Nat) (haw : switchyardlaw06_awake.f k = some true) (hT : Tabs W) :
    Calls Tryd.prog 8 #[.slice A0 l0.length c0, .slice A1 l1.length c1, .slice A2 l2.length c2] W fun e w' => e = .returned (.bool true) ∧ Below W.heap.size W w' := by
  have HA := Aside0.mk haw
  have HT := Aside0.mk hT
  have HB := Aside0.mk (Below.refl W.heap.size W)
  clear haw hT
  by_cases h0 : l0.length ≤ 5
  · have d0 : decide (5 < (l0.length : Int)) = false := decide_eq_false (by omega)
    by_cases h1 : l1.length ≤ 5
    · have d1 : decide (5 < (l1.length : Int)) = false := decide_eq_false (by omega)
      have d2 : decide (5 < (l2.length : Int)) = true := decide_eq_true (by omega)
      clear h0 h1 h
      go_enter Tryd.func8, Tryd.ntmps8
      go_wp2_with (first | ((with_reducible refine gate_callee (f := 10) rfl ?_); refine goesL_ (some 10) rfl rfl Tryd.func10 (by kernel_rfl) rfl #[] rfl (by (try simp only [List.map_toArray, List.map_cons, List.map_nil]); first | done | rfl) ?_; (with_reducible refine (switchyardlaw06_awake.calls k true _ HA.out (Tabs.below HT.out HB.out)).mono ?_); rintro e w1 ⟨rfl, hb⟩; refine ⟨_, rfl, ?_⟩; have n0_ := Aside0.mk (below_step HB.out hb); clear HB hb; have HB := n0_; clear n0_) | ((with_reducible refine gate_callee (f := 10) rfl ?_); refine goesL_ (some 25) rfl rfl Tryd.func10 (by kernel_rfl) rfl #[] rfl (by (try simp only [List.map_toArray, List.map_cons, List.map_nil]); first | done | rfl) ?_; (with_reducible refine (switchyardlaw06_awake.calls k true _ HA.out (Tabs.below HT.out HB.out)).mono ?_); rintro e w1 ⟨rfl, hb⟩; refine ⟨_, rfl, ?_⟩; have n0_ := Aside0.mk (below_step HB.out hb); clear HB hb; have HB := n0_; clear n0_))
      go_ret
      exact ⟨rfl, HB.out⟩
    · have d1 : decide (5 < (l1.length : Int)) = true := decide_eq_true (by omega)
      clear h0 h1 h
      go_enter Tryd.func8, Tryd.ntmps8
      go_wp2_with (first | ((with_reducible refine gate_callee (f := 10) rfl ?_); refine goesL_ (some 10) rfl rfl Tryd.func10 (by kernel_rfl) rfl #[] rfl (by (try simp only [List.map_toArray, List.map_cons, List.map_nil]); first | done | rfl) ?_; (with_reducible refine (switchyardlaw06_awake.calls k true _ HA.out (Tabs.below HT.out HB.out)).mono ?_); rintro e w1 ⟨rfl, hb⟩; refine ⟨_, rfl, ?_⟩; have n0_ := Aside0.mk (below_step HB.out hb); clear HB hb; have HB := n0_; clear n0_) | ((with_reducible refine gate_callee (f := 10) rfl ?_); refine goesL_ (some 25) rfl rfl Tryd.func10 (by kernel_rfl) rfl #[] rfl (by (try simp only [List.map_toArray, List.map_cons, List.map_nil]); first | done | rfl) ?_; (with_reducible refine (switchyardlaw06_awake.calls k true _ HA.out (Tabs.below HT.out HB.out)).mono ?_); rintro e w1 ⟨rfl, hb⟩; refine ⟨_, rfl, ?_⟩; have n0_ := Aside0.mk (below_step HB.out hb); clear HB hb; have HB := n0_; clear n0_))
      go_ret
      exact ⟨rfl, HB.out⟩
  · have d0 : decide (5 < (l0.length : Int)) = true := decide_eq_true (by omega)
    clear h0 h
    go_enter Tryd.func8, Tryd.ntmps8
    go_wp2_with (first | ((with_reducible refine gate_callee (f := 10) rfl ?_); refine goesL_ (some 10) rfl rfl Tryd.func10 (by kernel_rfl) rfl #[] rfl (by (try simp only [List.map_toArray, List.map_cons, List.map_nil]); first | done | rfl) ?_; (with_reducible refine (switchyardlaw06_awake.calls k true _ HA.out (Tabs.below HT.out HB.out)).mono ?_); rintro e w1 ⟨rfl, hb⟩; refine ⟨_, rfl, ?_⟩; have n0_ := Aside0.mk (below_step HB.out hb); clear HB hb; have HB := n0_; clear n0_) | ((with_reducible refine gate_callee (f := 10) rfl ?_); refine goesL_ (some 25) rfl rfl Tryd.func10 (by kernel_rfl) rfl #[] rfl (by (try simp only [List.map_toArray, List.map_cons, List.map_nil]); first | done | rfl) ?_; (with_reducible refine (switchyardlaw06_awake.calls k true _ HA.out (Tabs.below HT.out HB.out)).mono ?_); rintro e w1 ⟨rfl, hb⟩; refine ⟨_, rfl, ?_⟩; have n0_ := Aside0.mk (below_step HB.out hb); clear HB hb; have HB := n0_; clear n0_))
    go_ret
    exact ⟨rfl, HB.out⟩
theorem orderV_lists (l p : List Int) : orderV 5 0 ByteArray.empty l 5 0 ByteArray.empty p = cmpLs l p := by
  unfold orderV
  rw [cmpI_zero.2 rfl, cmpI_zero.2 rfl, (cmpS_zero _ _).2 rfl]
  simp only [orI]
  simp
  intro h; exact h.symm
theorem cmpLs_common (l p q : List Int) : cmpLs (l ++ p) (l ++ q) = cmpLs p q := by
  induction l with
  | nil => rfl
  | cons x l ih => simp only [List.cons_append, cmpLs]; rw [if_pos (cmpI_zero.2 rfl)]; exact ih
theorem cmpLs_ahead (l p : List Int) (hp : p ≠ []) : cmpLs (l ++ []) (l ++ p) = -1 := by
  rw [cmpLs_common]
  cases p with
  | nil => exact absurd rfl hp
  | cons x p => rfl
theorem lists_walk (A0 : Option Addr) (c0 : Nat) (l0 : (List Int)) (A1 : Option Addr) (c1 : Nat) (l1 : (List Int)) (A2 : Option Addr) (c2 : Nat) (l2 : (List Int)) (W : World) (hC0 : Kd.C (Kd.int .i64) W A0 l0.length l0) (hc0 : l0.length ≤ c0) (hG0 : (l0.length * Tryd.prog.bytesOf 2 ≤ 140737488351232 ∧ l0.length ≤ maxLen ∧ ∀ y ∈ l0, (Lit.int .i64 y).wf = true)) (hC1 : Kd.C (Kd.int .i64) W A1 l1.length l1) (hc1 : l1.length ≤ c1) (hG1 : (l1.length * Tryd.prog.bytesOf 2 ≤ 140737488351232 ∧ l1.length ≤ maxLen ∧ ∀ y ∈ l1, (Lit.int .i64 y).wf = true)) (hC2 : Kd.C (Kd.int .i64) W A2 l2.length l2) (hc2 : l2.length ≤ c2) (hG2 : (l2.length * Tryd.prog.bytesOf 2 ≤ 140737488351232 ∧ l2.length ≤ maxLen ∧ ∀ y ∈ l2, (Lit.int .i64 y).wf = true)) (hT : Tabs W) :
    Calls Tryd.prog 8 #[.slice A0 l0.length c0, .slice A1 l1.length c1, .slice A2 l2.length c2] W fun e w' => e = .returned (.bool true) ∧ Below W.heap.size W w' := by
  obtain ⟨Ka, ha⟩ := awake_ev
  by_cases h : l0.length ≤ 5 ∧ l1.length ≤ 5 ∧ l2.length ≤ 5
  · obtain ⟨h0, h1, h2⟩ := h
    have hb : ∀ l : List Int, l.length ≤ 10 → l.length ≤ 4611686018427387904 := fun l h => by omega
    obtain ⟨K1, e1⟩ := order_ev 5 0 ByteArray.empty (l0 ++ l1) 5 0 ByteArray.empty (l0 ++ l2) (hb _ (by simp; omega))
    obtain ⟨K2, e2⟩ := order_ev 5 0 ByteArray.empty ([] ++ l1) 5 0 ByteArray.empty ([] ++ l2) (hb _ (by simp; omega))
    obtain ⟨K3, e3⟩ := order_ev 5 0 ByteArray.empty (l0 ++ []) 5 0 ByteArray.empty (l0 ++ l1) (hb _ (by simp; omega))
    have m1 := e1 (Ka + K1 + K2 + K3) (by omega)
    have m2 := e2 (Ka + K1 + K2 + K3) (by omega)
    have m3 := e3 (Ka + K1 + K2 + K3) (by omega)
    rw [orderV_lists] at m1 m2 m3
    rw [cmpLs_common] at m1
    exact lists_walk1 A0 c0 l0 A1 c1 l1 A2 c2 l2 W hC0 hC1 hC2 h0 h1 h2 (Ka + K1 + K2 + K3) (ha _ (by omega)) (cmpLs l1 l2) m1 m2 (fun hn => m3.trans (by rw [cmpLs_ahead l0 l1 hn])) hT
  · exact lists_walk2 A0 c0 l0 A1 c1 l1 A2 c2 l2 W h Ka (ha _ (Nat.le_refl _)) hT
end Go.Proofs.YtdmmgeggljlceaaDoor.XV
