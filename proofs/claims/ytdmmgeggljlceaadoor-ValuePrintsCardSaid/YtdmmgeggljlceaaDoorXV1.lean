-- Printed by a program of this session's own (wip/xprint.py, which drives the kit's print); Lean checks it.
import Derived.Test.YtdmmgeggljlceaaDoorXV0
namespace Go.Proofs.YtdmmgeggljlceaaDoor.XV
open Go.RowKit Go.Proofs.YtdmmgeggljlceaaDoorW.PrintWords Go.Proofs.YtdmmgeggljlceaaDoorW.PrintLast Go.Proofs.YtdmmgeggljlceaaDoorW.PrintMore
attribute [local go_sem] max2_int min2_int max_two min_two max_three min_three max_four min_four   -- for this text's walks alone
set_option linter.unusedVariables false
set_option linter.unusedSimpArgs false

theorem bsize_mk (a : Array UInt8) : (ByteArray.mk a).size = a.size := rfl
/-- The library's table that strconv.FormatInt reads stands in memory as its text lays it. -/
def Tabs (w : World) : Prop := Lib.TabIs Tryd.prog w "internal/strconv.uint64pow10" .u64 Lib.pow10Tab
theorem Tabs.below {w W : World} (h : Tabs w) (hb : Below w.heap.size w W) : Tabs W := Go.Joins.tab_stays (g := 1) (by kernel_rfl) h hb (Nat.le_refl _)

/-! ### value_Name: function 11 (given) -/
def letterB (c : Int) : Bool := decide (97 ≤ c ∧ c ≤ 122) || decide (65 ≤ c ∧ c ≤ 90)
def okAt (i : Nat) (c : Int) : Bool := letterB c || (decide (i ≠ 0) && (decide (c = 95) || decide (48 ≤ c ∧ c ≤ 57)))
def nameB (s : ByteArray) : Bool := decide (0 < s.size ∧ s.size ≤ 24) && (List.range s.size).all fun i => okAt i (bt s i)
def value_Name.f (a0 : ByteArray) : Option Bool := some (nameB a0)
theorem nm_toList_len (s : ByteArray) : s.toList.length = s.size := by
  rw [ByteArray.toList_eq]; simp
theorem okAt_true {i : Nat} {c : Int} (h : okAt i c = true) : (97 ≤ c ∧ c ≤ 122) ∨ (65 ≤ c ∧ c ≤ 90) ∨ (0 < i ∧ 95 ≤ c ∧ c ≤ 95) ∨ (0 < i ∧ 48 ≤ c ∧ c ≤ 57) := by
  unfold okAt letterB at h
  simp at h
  omega
theorem okAt_false {i : Nat} {c : Int} (h : okAt i c = false) : ¬ (97 ≤ c ∧ c ≤ 122) ∧ ¬ (65 ≤ c ∧ c ≤ 90) ∧ (i = 0 ∨ ¬ (95 ≤ c ∧ c ≤ 95) ∧ ¬ (48 ≤ c ∧ c ≤ 57)) := by
  unfold okAt letterB at h
  simp at h
  omega
theorem okAt_big {i : Nat} {c : Int} (h : 128 ≤ c) : okAt i c = false := by
  unfold okAt letterB
  simp
  omega
theorem nameB_no {s : ByteArray} {i : Nat} (h : i < s.size) (hk : okAt i (bt s i) = false) : nameB s = false := by
  unfold nameB
  rw [Bool.and_eq_false_iff]
  right
  rw [List.all_eq_false]
  exact ⟨i, List.mem_range.2 h, by simp [hk]⟩
theorem nameB_yes {s : ByteArray} (h0 : 0 < s.size) (h1 : s.size ≤ 24) (h : ∀ i, i < s.size → okAt i (bt s i) = true) : nameB s = true := by
  unfold nameB
  rw [Bool.and_eq_true]
  exact ⟨decide_eq_true ⟨h0, h1⟩, List.all_eq_true.2 fun i hi => h i (List.mem_range.1 hi)⟩
theorem okAt_letter {i : Nat} {c : Int} (h : (97 ≤ c ∧ c ≤ 122) ∨ (65 ≤ c ∧ c ≤ 90)) : okAt i c = true := by
  unfold okAt letterB; rcases h with h | h <;> simp [h]
theorem nm_bt_at (s : ByteArray) (i : Nat) (h : i < s.size) : bt s i = ((s[i]'h).toNat : Int) := by
  unfold bt; simp [h]
theorem nm_below_iter (w : World) (s : ByteArray) (p : Nat) : Below w.heap.size w (w.iter s p) := by
  unfold World.iter
  exact below_alloc (Below.refl _ _) _
set_option maxHeartbeats 1000000 in
set_option maxRecDepth 100000 in
theorem value_Name.calls (a0 : ByteArray) (r : Bool) (w : World) (h : value_Name.f a0 = some r) :
    Calls Tryd.prog 11 #[.string a0] w fun e w' => e = .returned (.bool r) ∧ Below w.heap.size w w' := by
  obtain rfl := Option.some.inj h
  clear h
  by_cases h0 : a0.size = 0
  · have e1 : nameB a0 = false := by unfold nameB; simp [h0]
    rw [e1]
    have e2 : a0.toList = [] := by
      have : a0.toList.length = 0 := nm_toList_len a0 ▸ h0
      exact List.length_eq_zero_iff.1 this
    go_enter Tryd.func11, Tryd.ntmps11
    go_wp2
    go_ret
    exact ⟨rfl, Below.refl _ _⟩
  · have e2 : a0.toList ≠ [] := by
      intro e
      have : a0.toList.length = 0 := by rw [e]; rfl
      rw [nm_toList_len] at this
      exact h0 this
    have e3 : a0.toList.isEmpty = false := by cases h : a0.toList with | nil => exact absurd h e2 | cons _ _ => rfl
    have e4 : (!a0.toList.isEmpty) = true := by rw [e3]; rfl
    by_cases h1 : 24 < a0.size
    · have e1 : nameB a0 = false := by unfold nameB; simp; omega
      rw [e1]
      clear e2
      go_enter Tryd.func11, Tryd.ntmps11
      go_wp2
      go_ret
      exact ⟨rfl, Below.refl _ _⟩
    · have hle : a0.size ≤ 24 := by omega
      have hpos : 0 < a0.size := by omega
      clear e2 h0 h1
      go_enter Tryd.func11, Tryd.ntmps11
      go_wp2
      go_loopw [] (fun w' => ∃ pos : Nat, pos ≤ a0.size ∧ w' = w.iter a0 pos ∧ Aside0 (∀ j, j < pos → okAt j (bt a0 j) = true)) (fun w' => a0.size - w'.iterPos w.heap.size)
      case atStart => exact ⟨0, Nat.zero_le _, rfl, ⟨fun j hj => absurd hj (Nat.not_lt_zero _)⟩⟩
      case round =>
        obtain ⟨pos, hpz, rfl, HA⟩ := hrel
        by_cases hp : pos < a0.size
        · have hnx : ∀ ty, (Instr.next (.pointer (some ⟨w.heap.size, 0, none⟩)) true ty).run Tryd.prog (w.iter a0 pos) = _ := fun ty => run_next_any w a0 pos ty hp
          by_cases ha : (a0[pos]'hp).toNat < 128
          · rw [decode_ascii a0 pos hp ha] at hnx
            have hb := nm_bt_at a0 pos hp
            obtain ⟨c, hc⟩ : ∃ c : Nat, c = (a0[pos]'hp).toNat := ⟨_, rfl⟩
            rw [← hc] at hnx hb ha
            clear hc
            have HB := Aside0.mk hb
            clear hb
            cases hk : okAt pos (c : Int) with
            | true =>
              rcases okAt_true hk with ⟨k1, k2⟩ | ⟨k1, k2⟩ | ⟨k0, k1, k2⟩ | ⟨k0, k1, k2⟩
              all_goals
                have HK := Aside0.mk hk
                clear hk
                have HA' : Aside0 (∀ j, j < pos + 1 → okAt j (bt a0 j) = true) := ⟨fun j hj => by
                  rcases Nat.lt_or_ge j pos with hlt | hge
                  · exact HA.out j hlt
                  · have e : j = pos := by omega
                    rw [e, HB.out]; exact HK.out⟩
                go_wp2
                all_goals first
                  | exact ⟨⟨pos + 1, by omega, rfl, HA'⟩, by simp; omega⟩
                  | (exfalso; simp at *; omega)
            | false =>
              obtain ⟨k1, k2, k3⟩ := okAt_false hk
              have HN : Aside0 (nameB a0 = false) := ⟨nameB_no hp (by rw [HB.out]; exact hk)⟩
              clear hk
              rcases k3 with k3 | ⟨k3, k4⟩
              · subst k3
                go_wp2
                all_goals (first | (go_ret; exact ⟨by rw [HN.out]; rfl, nm_below_iter _ _ _⟩) | (exfalso; simp at *; omega))
              · go_wp2
                all_goals (first | (go_ret; exact ⟨by rw [HN.out]; rfl, nm_below_iter _ _ _⟩) | (exfalso; simp at *; omega))
          · obtain ⟨hd1, hd2⟩ := decode_high a0 pos hp (by omega)
            have hb := nm_bt_at a0 pos hp
            have HN : Aside0 (nameB a0 = false) := ⟨nameB_no hp (okAt_big (by rw [hb]; omega))⟩
            obtain ⟨d, hd⟩ : ∃ d, Utf8.decode a0 pos = d := ⟨_, rfl⟩
            rw [hd] at hnx hd1 hd2
            obtain ⟨c, k⟩ := d
            clear hd hb ha
            go_wp2
            all_goals (first | (go_ret; exact ⟨by rw [HN.out]; rfl, nm_below_iter _ _ _⟩) | (exfalso; simp at *; omega))
        · have hnx : ∀ ty, (Instr.next (.pointer (some ⟨w.heap.size, 0, none⟩)) true ty).run Tryd.prog (w.iter a0 pos) = _ := fun ty => run_next_end w a0 pos ty hp
          have HY : Aside0 (nameB a0 = true) := ⟨nameB_yes hpos hle (fun i hi => HA.out i (by omega))⟩
          go_wp2
          go_ret
          exact ⟨by rw [HY.out]; rfl, nm_below_iter _ _ _⟩

end Go.Proofs.YtdmmgeggljlceaaDoor.XV
