/- Words, printed functions and plain lemmas that the claim's theorem reaches (gathered by a program of this session out of its own and the print's texts). No conditions but those that each statement names. -/
import Derived.Test.YtdjcechogbcdnaaDoorKScans0
namespace Go.Proofs.YtdjcechogbcdnaaDoor.XL
open Go.RowKit Go.Proofs.YtdjcechogbcdnaaDoorW.PrintWords Go.Proofs.YtdjcechogbcdnaaDoorW.PrintLast Go.Proofs.YtdjcechogbcdnaaDoorW.PrintMore
attribute [local go_sem] max2_int min2_int max_two min_two max_three min_three max_four min_four   -- for this text's walks alone
set_option linter.unusedVariables false
set_option linter.unusedSimpArgs false
def switchyardref07_quoted.l0 : Nat → ByteArray → Int → Int → Option (Int)
  | 0, _, _, _ => none
  | k + 1, x0, x1, x5 => if x5 < (x0.size : Int) then (if 0 ≤ x5 then (if (bt x0 x5) = 92 then (switchyardref07_quoted.l0 k x0 x1 (wrap64 ((wrap64 (x5 + 1)) + 1))) else (if (bt x0 x5) = 34 then (some (wrap64 ((wrap64 (x5 + 1)) - x1))) else (switchyardref07_quoted.l0 k x0 x1 (wrap64 (x5 + 1))))) else (none)) else (some 0)
def switchyardref07_quoted.f (k : Nat) (a0 : ByteArray) (a1 : Int) : Option (Int) := switchyardref07_quoted.l0 k a0 a1 (wrap64 (a1 + 1))
set_option maxHeartbeats 4000000 in
set_option maxRecDepth 100000 in
theorem switchyardref07_quoted.calls (k : Nat) (a0 : ByteArray) (a1 : Int) (r : Int) (w : World) (h : switchyardref07_quoted.f k a0 a1 = some r) :
    Calls Tryd.prog 29 #[.string a0, .int .i64 a1] w fun e w' => e = .returned (.int .i64 r) ∧ Drawn0 w w' := by
  have H : (switchyardref07_quoted.l0 k a0 a1 (wrap64 (a1 + 1))) = some r := h
  clear h
  have H' := Aside0.mk H
  clear H
  go_enter Tryd.func29, Tryd.ntmps29
  go_wp2
  go_loopg [5] k (fun kq v5 w' => ∃ (x5_1 : Int), v5 = .int .i64 x5_1 ∧ Aside0 (switchyardref07_quoted.l0 kq a0 a1 x5_1 = some r) ∧ Aside0 (kq ≤ k) ∧ Drawn0 w w')
  case atStart => exact ⟨(wrap64 (a1 + 1)), (by first | rfl | (simp; done) | (simp [*]; done)), H', ⟨Nat.le_refl _⟩, by repeat (first | exact Drawn0.refl _ | apply Drawn0.step)⟩
  case round =>
    clear H'
    try clear c2
    try clear p2
    obtain ⟨x5_1, rfl, HA, HK1, ⟨m1, rfl⟩⟩ := hrel
    cases gk with
    | zero => exact absurd HA.out (by simp [switchyardref07_quoted.l0])
    | succ k1 =>
      have H := HA.out
      clear HA
      simp only [switchyardref07_quoted.l0] at H
      by_cases c3 : x5_1 < (a0.size : Int)
      · rw [if_pos c3] at H
        have c3b0 : decide (x5_1 < (a0.size : Int)) = true := decide_eq_true c3
        clear c3
        by_cases c4 : 0 ≤ x5_1
        · rw [if_pos c4] at H
          have c4b0 : decide (0 ≤ x5_1) = true := decide_eq_true c4
          clear c4
          by_cases c6 : (bt a0 x5_1) = 92
          · rw [if_pos c6] at H
            have c6b0 : ((bt a0 x5_1) == 92) = true := beq_iff_eq.mpr c6
            have c6b1 : ((bt a0 x5_1) != 92) = false := bne_eq_false_iff_eq.mpr c6
            clear c6
            have H' := Aside0.mk H
            clear H
            have p5 : 0 ≤ (x5_1 : Int) := of_decide_eq_true (by first | (with_reducible assumption) | assumption)
            have q5 : x5_1 < (a0.size : Int) := of_decide_eq_true (by first | (with_reducible assumption) | assumption)
            have hx5 := bt_at a0 x5_1
            replace p5 := eq_true p5
            replace q5 := eq_true q5
            go_wp2
            go_roundg k1
            case measure => have := HK1.out; omega
            case rel => exact ⟨(wrap64 ((wrap64 (x5_1 + 1)) + 1)), (by first | rfl | (simp; done) | (simp [*]; done)), H', ⟨by have := HK1.out; omega⟩, by repeat (first | exact Drawn0.refl _ | apply Drawn0.step)⟩
          · rw [if_neg c6] at H
            have c6b0 : ((bt a0 x5_1) == 92) = false := beq_eq_false_iff_ne.mpr c6
            have c6b1 : ((bt a0 x5_1) != 92) = true := bne_iff_ne.mpr c6
            by_cases c8 : (bt a0 x5_1) = 34
            · rw [if_pos c8] at H
              have c8b0 : ((bt a0 x5_1) == 34) = true := beq_iff_eq.mpr c8
              have c8b1 : ((bt a0 x5_1) != 34) = false := bne_eq_false_iff_eq.mpr c8
              clear c8
              obtain rfl := Option.some.inj H
              have p5 : 0 ≤ (x5_1 : Int) := of_decide_eq_true (by first | (with_reducible assumption) | assumption)
              have q5 : x5_1 < (a0.size : Int) := of_decide_eq_true (by first | (with_reducible assumption) | assumption)
              have hx5 := bt_at a0 x5_1
              replace p5 := eq_true p5
              replace q5 := eq_true q5
              have p7 : 0 ≤ (x5_1 : Int) := of_decide_eq_true (by first | (with_reducible assumption) | assumption)
              have q7 : x5_1 < (a0.size : Int) := of_decide_eq_true (by first | (with_reducible assumption) | assumption)
              have hx7 := bt_at a0 x5_1
              replace p7 := eq_true p7
              replace q7 := eq_true q7
              go_wp2
              go_ret
              exact ⟨by first | rfl | (simp; done) | (simp [*]; done), by repeat (first | exact Drawn0.refl _ | apply Drawn0.step)⟩
            · rw [if_neg c8] at H
              have c8b0 : ((bt a0 x5_1) == 34) = false := beq_eq_false_iff_ne.mpr c8
              have c8b1 : ((bt a0 x5_1) != 34) = true := bne_iff_ne.mpr c8
              have H' := Aside0.mk H
              clear H
              have p5 : 0 ≤ (x5_1 : Int) := of_decide_eq_true (by first | (with_reducible assumption) | assumption)
              have q5 : x5_1 < (a0.size : Int) := of_decide_eq_true (by first | (with_reducible assumption) | assumption)
              have hx5 := bt_at a0 x5_1
              replace p5 := eq_true p5
              replace q5 := eq_true q5
              have p7 : 0 ≤ (x5_1 : Int) := of_decide_eq_true (by first | (with_reducible assumption) | assumption)
              have q7 : x5_1 < (a0.size : Int) := of_decide_eq_true (by first | (with_reducible assumption) | assumption)
              have hx7 := bt_at a0 x5_1
              replace p7 := eq_true p7
              replace q7 := eq_true q7
              go_wp2
              go_roundg k1
              case measure => have := HK1.out; omega
              case rel => exact ⟨(wrap64 (x5_1 + 1)), (by first | rfl | (simp; done) | (simp [*]; done)), H', ⟨by have := HK1.out; omega⟩, by repeat (first | exact Drawn0.refl _ | apply Drawn0.step)⟩
        · rw [if_neg c4] at H
          exact absurd H (by simp)
      · rw [if_neg c3] at H
        have c3b0 : decide (x5_1 < (a0.size : Int)) = false := decide_eq_false c3
        clear c3
        obtain rfl := Option.some.inj H
        go_wp2
        go_ret
        exact ⟨by first | rfl | (simp; done) | (simp [*]; done), by repeat (first | exact Drawn0.refl _ | apply Drawn0.step)⟩
theorem dc_lit_string (W : World) (x : Int) : (convert 62 9 (.slice (some ⟨W.heap.size, 0, none⟩) 1 1)).run Tryd.prog (W.alloc (.cells #[.int .u8 x] 5)) = .ok (.string (strOfNums [x])) (W.alloc (.cells #[.int .u8 x] 5)) := by
  refine own_string (base := W.heap.size) (e' := 5) (n := 1) Tryd.underlying62 Tryd.underlying5 Tryd.underlying9 ⟨rfl, .inr ⟨W.heap.size, 1, #[.int .u8 x], rfl, Nat.le_refl _, heap_alloc_new W _, by simp, by simp [maxLen], by simp, by simp [nums]⟩⟩
theorem dig_str (n : Nat) : strOfNums [48 + (n : Int) % 10] = ⟨#[UInt8.ofNat (48 + n % 10)]⟩ := by
  have h : (48 + (n : Int) % 10).toNat = 48 + n % 10 := by omega
  show (⟨([48 + (n : Int) % 10].map fun n => UInt8.ofNat n.toNat).toArray⟩ : ByteArray) = _
  rw [List.map_singleton, h]
theorem dec_low (n : Nat) (h : n < 10) : Ending.returned (.string (strOfNums [48 + (n : Int) % 10])) = .returned (.string ⟨(Lib.decDigits n).toArray⟩) := by
  rw [dig_str, Lib.decDigits, dif_pos h]
  have : n % 10 = n := by omega
  rw [this]
theorem dec_len (n : Nat) : (Lib.decDigits n).length ≤ n + 1 := by
  induction n using Nat.strongRecOn with
  | _ n ih =>
    rw [Lib.decDigits]
    split
    · simp
    · have := ih (n / 10) (by omega)
      simp only [List.length_append, List.length_singleton]
      omega
theorem dc_cat_mk (a b : List UInt8) : (⟨a.toArray⟩ : ByteArray) ++ ⟨b.toArray⟩ = ⟨(a ++ b).toArray⟩ := by
  apply ByteArray.ext
  simp
theorem dec_high (n : Nat) (h : ¬ n < 10) : Ending.returned (.string ((⟨(Lib.decDigits (n / 10)).toArray⟩ : ByteArray) ++ strOfNums [48 + (n : Int) % 10])) = .returned (.string ⟨(Lib.decDigits n).toArray⟩) := by
  rw [dig_str, Lib.decDigits.eq_def n, dif_neg h, ← dc_cat_mk]
theorem dec_pos (n : Nat) : ∀ (hn : (n : Int) ≤ 9223372036854775807) (w : World), Calls Tryd.prog 54 #[.int .i64 (n : Int)] w fun e w' => e = .returned (.string ⟨(Lib.decDigits n).toArray⟩) ∧ Below w.heap.size w w' := by
  induction n using Nat.strongRecOn with
  | _ n ih =>
  intro hn w
  have h0 : (0 : Int) ≤ (n : Int) := by omega
  have hl := fun (W : World) (x : Int) => dc_lit_string W x
  by_cases h10 : n < 10
  · go_enter Tryd.func54, Tryd.ntmps54
    go_wp2
    go_ret
    exact ⟨dec_low n h10, below_alloc (Below.refl _ _) _⟩
  · have H := Lib.hid (ih (n / 10) (by omega) (by omega))
    have hlen : ¬ 9223372036854775807 < (Lib.decDigits (n / 10)).length + (strOfNums [48 + (n : Int) % 10]).size := by
      rw [dig_str]
      have := dec_len (n / 10)
      show ¬ 9223372036854775807 < _ + 1
      omega
    clear ih
    go_enter Tryd.func54, Tryd.ntmps54
    go_wp2_with fail
    have e1 : ((n : Int) / 10) = ((n / 10 : Nat) : Int) := by omega
    rw [e1]
    clear e1
    refine (H.out _).mono ?_
    rintro e w' ⟨rfl, hb⟩
    have HB := Aside0.mk hb
    clear hb
    go_wp2
    go_ret
    exact ⟨dec_high n h10, below_step (below_alloc (Below.refl _ _) _) HB.out⟩
theorem dc_str_eq {a b : ByteArray} (h : a = b) : Ending.returned (.string a) = .returned (.string b) := by rw [h]
theorem itoa_neg {n : Int} {q r : Nat} (h0 : n < 0) (hq : q = (-n).toNat / 10) (hr : r = (-n).toNat % 10) : Lib.itoa n = 45 :: ((if q = 0 then [] else Lib.decDigits q) ++ Lib.decDigits r) := by
  have hr10 : r < 10 := by omega
  unfold Lib.itoa
  rw [if_pos h0, Lib.decDigits.eq_def n.natAbs, Lib.decDigits.eq_def r, dif_pos hr10]
  have hna : n.natAbs = 10 * q + r := by omega
  by_cases hz : q = 0
  · rw [if_pos hz, dif_pos (by omega), hna]
    simp [hz]
  · rw [if_neg hz, dif_neg (by omega), hna]
    have e1 : (10 * q + r) / 10 = q := by omega
    have e2 : (10 * q + r) % 10 = r := by omega
    rw [e1, e2]
theorem dec_neg (n : Int) (h0 : n < 0) (h1 : -9223372036854775808 ≤ n) (w : World) : Calls Tryd.prog 54 #[.int .i64 n] w fun e w' => e = .returned (.string ⟨(Lib.itoa n).toArray⟩) ∧ Below w.heap.size w w' := by
  obtain ⟨q, hq⟩ : ∃ q : Nat, q = (-n).toNat / 10 := ⟨_, rfl⟩
  obtain ⟨r, hr⟩ : ∃ r : Nat, r = (-n).toNat % 10 := ⟨_, rfl⟩
  have tq : Int.tdiv n 10 = -(q : Int) := by
    have e : n = -(-n) := by omega
    rw [e, Int.neg_tdiv, Int.tdiv_eq_ediv_of_nonneg (by omega)]; omega
  have tr : Int.tmod n 10 = -(r : Int) := by
    have e : n = -(-n) := by omega
    rw [e, Int.neg_tmod, Int.tmod_eq_emod_of_nonneg (by omega)]; omega
  have hr9 : (r : Int) ≤ 9 := by omega
  have hqm : (q : Int) ≤ 922337203685477580 := by omega
  have HE : Aside0 (Lib.itoa n = 45 :: ((if q = 0 then [] else Lib.decDigits q) ++ Lib.decDigits r)) := ⟨itoa_neg h0 hq hr⟩
  have hR := Lib.hid (dec_pos r (by omega))
  have hQ := Lib.hid (dec_pos q (by omega))
  have l1 := dec_len r
  have l2 := dec_len q
  clear hr
  by_cases hz : q = 0
  · have HF : Aside0 (Lib.itoa n = 45 :: Lib.decDigits r) := ⟨by rw [HE.out, if_pos hz]; rfl⟩
    clear HE
    subst hz
    clear hq hQ l2 hqm
    have tq' : Int.tdiv n 10 = 0 := tq
    clear tq
    have hlen : ¬ 9223372036854775807 < ((⟨#[45]⟩ : ByteArray) ++ ⟨#[]⟩).size + (Lib.decDigits r).length := by
      show ¬ 9223372036854775807 < 1 + _
      omega
    clear l1
    go_enter Tryd.func54, Tryd.ntmps54
    go_wp2_with fail
    refine (hR.out _).mono ?_
    rintro e w' ⟨rfl, hb⟩
    have HB := Aside0.mk hb
    clear hb
    go_wp2
    go_ret
    exact ⟨by rw [HF.out]; exact dc_str_eq (by rw [show (⟨#[45]⟩ : ByteArray) ++ ⟨#[]⟩ = ⟨([45] : List UInt8).toArray⟩ from rfl, dc_cat_mk]; rfl), HB.out⟩
  · have HF : Aside0 (Lib.itoa n = 45 :: (Lib.decDigits q ++ Lib.decDigits r)) := ⟨by rw [HE.out, if_neg hz]⟩
    clear HE
    have hq0 : ¬ ((q : Int) = 0) := by omega
    have hlen1 : ¬ 9223372036854775807 < (⟨#[45]⟩ : ByteArray).size + (Lib.decDigits q).length := by
      show ¬ 9223372036854775807 < 1 + _
      omega
    have hlen2 : ¬ 9223372036854775807 < ((⟨#[45]⟩ : ByteArray) ++ ⟨(Lib.decDigits q).toArray⟩).size + (Lib.decDigits r).length := by
      rw [ByteArray.size_append]
      show ¬ 9223372036854775807 < 1 + (Lib.decDigits q).toArray.size + _
      rw [List.size_toArray]
      omega
    have hlen3 : ¬ 9223372036854775807 < 1 + (Lib.decDigits q).length := by omega
    have hlen4 : ¬ 9223372036854775807 < 1 + (Lib.decDigits q).length + (Lib.decDigits r).length := by omega
    clear l1 l2 hq
    go_enter Tryd.func54, Tryd.ntmps54
    go_wp2_with fail
    refine (hQ.out _).mono ?_
    rintro e w1 ⟨rfl, hb1⟩
    have HB1 := Aside0.mk hb1
    clear hb1
    go_wp2_with fail
    refine (hR.out _).mono ?_
    rintro e w' ⟨rfl, hb⟩
    have HB := Aside0.mk hb
    clear hb
    go_wp2
    go_ret
    exact ⟨by rw [HF.out]; exact dc_str_eq (by rw [show (⟨#[45]⟩ : ByteArray) = ⟨([45] : List UInt8).toArray⟩ from rfl, dc_cat_mk, dc_cat_mk]; rfl), below_step HB1.out HB.out⟩
def switchyardref06_Decimal.f (a0 : Int) : Option ByteArray := if -9223372036854775808 ≤ a0 then (if a0 ≤ 9223372036854775807 then some ⟨(Lib.itoa a0).toArray⟩ else none) else none
theorem switchyardref06_Decimal.calls (a0 : Int) (r : ByteArray) (w : World) (h : switchyardref06_Decimal.f a0 = some r) :
    Calls Tryd.prog 54 #[.int .i64 a0] w fun e w' => e = .returned (.string r) ∧ Below w.heap.size w w' := by
  unfold switchyardref06_Decimal.f at h
  by_cases h1 : -9223372036854775808 ≤ a0
  · rw [if_pos h1] at h
    by_cases h2 : a0 ≤ 9223372036854775807
    · rw [if_pos h2] at h
      obtain rfl := Option.some.inj h
      by_cases h0 : a0 < 0
      · exact dec_neg a0 h0 h1 w
      · obtain ⟨n, rfl⟩ := Int.eq_ofNat_of_zero_le (show 0 ≤ a0 by omega)
        have e : Lib.itoa (n : Int) = Lib.decDigits n := by unfold Lib.itoa; rw [if_neg h0]; rfl
        rw [e]
        exact dec_pos n h2 w
    · rw [if_neg h2] at h; cases h
  · rw [if_neg h1] at h; cases h
end Go.Proofs.YtdjcechogbcdnaaDoor.XL
namespace Go.Proofs.YtdjcechogbcdnaaDoor.XL
open Go.RowKit Go.Proofs.YtdjcechogbcdnaaDoorW.PrintWords Go.Proofs.YtdjcechogbcdnaaDoorW.PrintLast Go.Proofs.YtdjcechogbcdnaaDoorW.PrintMore
attribute [local go_sem] max2_int min2_int max_two min_two max_three min_three max_four min_four   -- for this text's walks alone
set_option linter.unusedVariables false
set_option linter.unusedSimpArgs false
mutual
def switchyardref06_Print.j0 : Nat → Bool → Int → Int → ByteArray → List Int → Option (ByteArray)
  | 0, _, _, _, _, _ => none
  | k + 1, x22, x191000, x191001, x191002, x191003 => if x22 = true then (some (⟨#[116, 114, 117, 101]⟩ : ByteArray)) else (if x191000 = 2 then (some (⟨#[102, 97, 108, 115, 101]⟩ : ByteArray)) else (if x191000 = 4 then (if 1 + x191002.size ≤ 9223372036854775807 then (some ((⟨#[39]⟩ : ByteArray) ++ x191002)) else (none)) else (if x191000 = 3 then (if ([] : List Int).length < 140737488355328 then (switchyardref06_Print.l0 k (([] : List Int) ++ [34]) 0 x191000 x191001 x191002 x191003) else (none)) else (if x191000 = 5 then (switchyardref06_Print.l1 k (⟨#[91]⟩ : ByteArray) x191003 (x191003.length : Int) 0) else (some (⟨#[110, 111, 110, 101]⟩ : ByteArray))))))
def switchyardref06_Print.l0 : Nat → List Int → Int → Int → Int → ByteArray → List Int → Option (ByteArray)
  | 0, _, _, _, _, _, _ => none
  | k + 1, x3, x4, x191000, x191001, x191002, x191003 => if x4 < (x191002.size : Int) then (if 0 ≤ x4 then (if (bt x191002 x4) < 32 then (switchyardref06_Print.j2 k x3 x4 (bt x191002 x4) true x191000 x191001 x191002 x191003) else (switchyardref06_Print.j2 k x3 x4 (bt x191002 x4) (decide ((bt x191002 x4) > 126)) x191000 x191001 x191002 x191003)) else (none)) else (if x3.length < 140737488355328 then (some (strOfNums (x3 ++ [34]))) else (none))
def switchyardref06_Print.j2 : Nat → List Int → Int → Int → Bool → Int → Int → ByteArray → List Int → Option (ByteArray)
  | 0, _, _, _, _, _, _, _, _ => none
  | k + 1, x3, x4, x5, x54, x191000, x191001, x191002, x191003 => if x54 = true then (if x3.length < 140737488355328 then ((some (x3 ++ [92] : List Int)).bind fun y198 => (if y198.length < 140737488355328 then ((some (y198 ++ [120] : List Int)).bind fun y201 => (if 0 ≤ ((Int.tdiv x5 16) % 256) then (if ((Int.tdiv x5 16) % 256) < 16 then (if y201.length < 140737488355328 then ((some (y201 ++ [bt (⟨#[48, 49, 50, 51, 52, 53, 54, 55, 56, 57, 97, 98, 99, 100, 101, 102]⟩ : ByteArray) ((Int.tdiv x5 16) % 256)] : List Int)).bind fun y204 => (if 0 ≤ (Int.tmod x5 16) then (if (Int.tmod x5 16) < 16 then (if y204.length < 140737488355328 then (switchyardref06_Print.l0 k (y204 ++ [bt (⟨#[48, 49, 50, 51, 52, 53, 54, 55, 56, 57, 97, 98, 99, 100, 101, 102]⟩ : ByteArray) (Int.tmod x5 16)]) (wrap64 (x4 + 1)) x191000 x191001 x191002 x191003) else (none)) else (none)) else (none))) else (none)) else (none)) else (none))) else (none))) else (none)) else (if x5 = 34 then (if x3.length < 140737488355328 then ((some (x3 ++ [92] : List Int)).bind fun y210 => (if y210.length < 140737488355328 then (switchyardref06_Print.l0 k (y210 ++ [x5]) (wrap64 (x4 + 1)) x191000 x191001 x191002 x191003) else (none))) else (none)) else (if x5 = 92 then (if x3.length < 140737488355328 then ((some (x3 ++ [92] : List Int)).bind fun y216 => (if y216.length < 140737488355328 then (switchyardref06_Print.l0 k (y216 ++ [x5]) (wrap64 (x4 + 1)) x191000 x191001 x191002 x191003) else (none))) else (none)) else (if x3.length < 140737488355328 then (switchyardref06_Print.l0 k (x3 ++ [x5]) (wrap64 (x4 + 1)) x191000 x191001 x191002 x191003) else (none))))
def switchyardref06_Print.l1 : Nat → ByteArray → List Int → Int → Int → Option (ByteArray)
  | 0, _, _, _, _ => none
  | k + 1, x6, x91, x92, x93 => if x93 < x92 then (if 0 ≤ x93 then (if x93 < (x91.length : Int) then (if x93 > 0 then (if x6.size + 2 ≤ 9223372036854775807 then ((switchyardref06_Decimal.f (rd x91 x93)).bind fun t226 => (if (x6 ++ (⟨#[44, 32]⟩ : ByteArray)).size + t226.size ≤ 9223372036854775807 then (switchyardref06_Print.l1 k ((x6 ++ (⟨#[44, 32]⟩ : ByteArray)) ++ t226) x91 x92 (wrap64 (x93 + 1))) else (none))) else (none)) else ((switchyardref06_Decimal.f (rd x91 x93)).bind fun t227 => (if x6.size + t227.size ≤ 9223372036854775807 then (switchyardref06_Print.l1 k (x6 ++ t227) x91 x92 (wrap64 (x93 + 1))) else (none)))) else (none)) else (none)) else (if x6.size + 1 ≤ 9223372036854775807 then (some (x6 ++ (⟨#[93]⟩ : ByteArray))) else (none))
end
def switchyardref06_Print.f (k : Nat) (a0_0 : Int) (a0_1 : Int) (a0_2 : ByteArray) (l0_3 : List Int) : Option (ByteArray) := if a0_0 = 1 then ((switchyardref06_Decimal.f a0_1).bind fun t191 => (some t191)) else (if a0_0 = 2 then (switchyardref06_Print.j0 k (a0_1 == 1) a0_0 a0_1 a0_2 l0_3) else (switchyardref06_Print.j0 k false a0_0 a0_1 a0_2 l0_3))
set_option maxHeartbeats 4000000 in
set_option maxRecDepth 100000 in
theorem switchyardref06_Print.calls (k : Nat) (a0_0 : Int) (a0_1 : Int) (a0_2 : ByteArray) (A0_3 : Option Addr) (c0_3 : Nat) (l0_3 : List Int) (r : ByteArray) (w : World) (hr0_3 : Kd.C (Kd.int .i64) w A0_3 l0_3.length l0_3) (hc0_3 : l0_3.length ≤ c0_3) (h : switchyardref06_Print.f k a0_0 a0_1 a0_2 l0_3 = some r) :
    Calls Tryd.prog 42 #[.agg #[.int .i64 a0_0, .int .i64 a0_1, .string a0_2, .slice A0_3 l0_3.length c0_3]] w fun e w' => e = .returned (.string r) ∧ Below w.heap.size w w' := by
  have hu60 := Tryd.underlying60
  have HR0_3 := Aside0.mk hr0_3
  have HC0_3 := Aside0.mk hc0_3
  clear hr0_3 hc0_3
  have HB := Aside0.mk (Below.refl w.heap.size w)
  have H : (if a0_0 = 1 then ((switchyardref06_Decimal.f a0_1).bind fun t191 => (some t191)) else (if a0_0 = 2 then (switchyardref06_Print.j0 k (a0_1 == 1) a0_0 a0_1 a0_2 l0_3) else (switchyardref06_Print.j0 k false a0_0 a0_1 a0_2 l0_3))) = some r := h
  clear h
  by_cases c2 : a0_0 = 1
  · rw [if_pos c2] at H
    have c2b0 : (a0_0 == 1) = true := beq_iff_eq.mpr c2
    have c2b1 : (a0_0 != 1) = false := bne_eq_false_iff_eq.mpr c2
    clear c2
    replace H := Option.bind_eq_some_iff.mp H
    obtain ⟨t191, A30, H⟩ := H
    replace H : (some t191) = some r := H
    have A3 := Aside0.mk A30
    clear A30
    obtain rfl := Option.some.inj H
    go_enter Tryd.func42, Tryd.ntmps42
    go_wp2_with (first | ((with_reducible refine gate_dst (N := 1) rfl ?_); refine box_event ?hg (N := 1) ?hd (cs := #[.int .i64 a0_0, .int .i64 a0_1, .string a0_2, .slice A0_3 l0_3.length c0_3]) (t := 60) ?hr ?_; (case hd => rfl); (case hg => rfl); (case hr => first | (go_simp; done) | (go_simp; rfl)); intro gb190 hg w4 hbox hb; have n0_ := Aside0.mk (below_step (by repeat (first | (with_reducible first | exact HB.out | apply below_alloc | apply pw_below_drewN | apply below_drew1) | exact HB.out)) hb); have n1_ := Aside0.mk (hbox); have n2_ := Aside0.mk ((by rw [hg]; exact (below_size (by repeat (first | (with_reducible first | exact HB.out | apply below_alloc | apply pw_below_drewN | apply below_drew1) | exact HB.out))) : w.heap.size ≤ gb190)); have n3_ := Aside0.mk ((by rw [hg]; exact (below_size (by repeat (first | (with_reducible first | exact HB.out | apply below_alloc | apply pw_below_drewN | apply below_drew1) | exact HB.out))) : w.heap.size ≤ gb190)); clear HB; have HB := n0_; have BK190 := n1_; have GW190 := n2_; have GE190 := n3_; clear n0_ n1_ n2_ n3_; clear hb hbox hg; have hcz5_0 : w4.cell? ⟨gb190, 0, none⟩ = some (.int .i64 a0_0) := (blk_cell BK190.out 0).trans rfl; have hcz5_1 : w4.cell? ⟨gb190, 1, none⟩ = some (.int .i64 a0_1) := (blk_cell BK190.out 1).trans rfl; have hcz5_2 : w4.cell? ⟨gb190, 2, none⟩ = some (.string a0_2) := (blk_cell BK190.out 2).trans rfl; have hcz5_3 : w4.cell? ⟨gb190, 3, none⟩ = some (.slice A0_3 l0_3.length c0_3) := (blk_cell BK190.out 3).trans rfl; have hfz5_0 := blk_frozen BK190.out 0; have hfz5_1 := blk_frozen BK190.out 1; have hfz5_2 := blk_frozen BK190.out 2; have hfz5_3 := blk_frozen BK190.out 3) | ((with_reducible refine gate_callee (f := 54) rfl ?_); refine goesL_ (some 14) rfl rfl Tryd.func54 (by kernel_rfl) rfl #[.int .i64 a0_1] rfl (by (try simp only [List.map_toArray, List.map_cons, List.map_nil]); first | done | rfl | (simp only [List.length_drop, List.length_take]; rfl)) ?_; (with_reducible refine (switchyardref06_Decimal.calls a0_1 t191 _ A3.out).mono ?_); rintro e w6 ⟨rfl, hb⟩; refine ⟨_, rfl, ?_⟩; have n0_ := Aside0.mk (blk_below (g := gb190) (o := .cells #[.int .i64 a0_0, .int .i64 a0_1, .string a0_2, .slice A0_3 l0_3.length c0_3] 60 (0, 0)) (by (with_reducible repeat (first | refine blk_drewN ?_ _ | refine blk_drew ?_ | refine blk_alloc ?_ _)); exact BK190.out) hb); have n1_ := Aside0.mk (below_step (by repeat (first | (with_reducible first | exact HB.out | apply below_alloc | apply pw_below_drewN | apply below_drew1 | refine below_set ?_ GE190.out) | exact HB.out)) hb); clear BK190; clear HB; have BK190 := n0_; have HB := n1_; clear n0_ n1_; (try clear hb); (try clear hb2); (try clear hk); (try clear hi)))
    go_ret
    exact ⟨by first | rfl | (simp [errW_none, errW_some] <;> rfl) | (simp [*, errW_none, errW_some] <;> rfl), by repeat (first | (with_reducible first | exact HB.out | apply below_alloc | apply pw_below_drewN | apply below_drew1 | refine below_set ?_ GE190.out) | exact HB.out)⟩
  · rw [if_neg c2] at H
    have c2b0 : (a0_0 == 1) = false := beq_eq_false_iff_ne.mpr c2
    have c2b1 : (a0_0 != 1) = true := bne_iff_ne.mpr c2
    have HC7 := Aside0.mk H
    clear H
    go_enter Tryd.func42, Tryd.ntmps42
    go_upto_region 3 with (first | ((with_reducible refine gate_dst (N := 1) rfl ?_); refine box_event ?hg (N := 1) ?hd (cs := #[.int .i64 a0_0, .int .i64 a0_1, .string a0_2, .slice A0_3 l0_3.length c0_3]) (t := 60) ?hr ?_; (case hd => rfl); (case hg => rfl); (case hr => first | (go_simp; done) | (go_simp; rfl)); intro gb190 hg w8 hbox hb; have n0_ := Aside0.mk (below_step (by repeat (first | (with_reducible first | exact HB.out | apply below_alloc | apply pw_below_drewN | apply below_drew1) | exact HB.out)) hb); have n1_ := Aside0.mk (hbox); have n2_ := Aside0.mk ((by rw [hg]; exact (below_size (by repeat (first | (with_reducible first | exact HB.out | apply below_alloc | apply pw_below_drewN | apply below_drew1) | exact HB.out))) : w.heap.size ≤ gb190)); have n3_ := Aside0.mk ((by rw [hg]; exact (below_size (by repeat (first | (with_reducible first | exact HB.out | apply below_alloc | apply pw_below_drewN | apply below_drew1) | exact HB.out))) : w.heap.size ≤ gb190)); clear HB; have HB := n0_; have BK190 := n1_; have GW190 := n2_; have GE190 := n3_; clear n0_ n1_ n2_ n3_; clear hb hbox hg; have hcz9_0 : w8.cell? ⟨gb190, 0, none⟩ = some (.int .i64 a0_0) := (blk_cell BK190.out 0).trans rfl; have hcz9_1 : w8.cell? ⟨gb190, 1, none⟩ = some (.int .i64 a0_1) := (blk_cell BK190.out 1).trans rfl; have hcz9_2 : w8.cell? ⟨gb190, 2, none⟩ = some (.string a0_2) := (blk_cell BK190.out 2).trans rfl; have hcz9_3 : w8.cell? ⟨gb190, 3, none⟩ = some (.slice A0_3 l0_3.length c0_3) := (blk_cell BK190.out 3).trans rfl; have hfz9_0 := blk_frozen BK190.out 0; have hfz9_1 := blk_frozen BK190.out 1; have hfz9_2 := blk_frozen BK190.out 2; have hfz9_3 := blk_frozen BK190.out 3))
    (try simp only [Act.put, List.setIfInBounds_toArray, List.set_cons_zero, List.set_cons_succ])
    go_cut [22] (fun v22 wc => ∃ (kq : Nat) (x22_6 : Bool), v22 = .bool x22_6 ∧ Aside0 (switchyardref06_Print.j0 kq x22_6 a0_0 a0_1 a0_2 l0_3 = some r) ∧ Aside0 (kq ≤ k) ∧ Aside0 (wc.heap[gb190]? = some (.cells #[.int .i64 a0_0, .int .i64 a0_1, .string a0_2, (.slice A0_3 l0_3.length c0_3)] 60 (0, 0))) ∧ Aside0 (Below w.heap.size w wc))
    case first =>
      have H := HC7.out
      clear HC7
      by_cases c10 : a0_0 = 2
      · rw [if_pos c10] at H
        have c10b0 : (a0_0 == 2) = true := beq_iff_eq.mpr c10
        have c10b1 : (a0_0 != 2) = false := bne_eq_false_iff_eq.mpr c10
        clear c10
        (first | rw [c10b0] | (simp only [i64_w, i32_w]; rw [c10b0]) | skip)
        have H' := Aside0.mk H
        clear H
        have hcz11_0 : w8.cell? ⟨gb190, 0, none⟩ = some (.int .i64 a0_0) := (blk_cell BK190.out 0).trans rfl
        have hcz11_1 : w8.cell? ⟨gb190, 1, none⟩ = some (.int .i64 a0_1) := (blk_cell BK190.out 1).trans rfl
        have hcz11_2 : w8.cell? ⟨gb190, 2, none⟩ = some (.string a0_2) := (blk_cell BK190.out 2).trans rfl
        have hcz11_3 : w8.cell? ⟨gb190, 3, none⟩ = some (.slice A0_3 l0_3.length c0_3) := (blk_cell BK190.out 3).trans rfl
        have hfz11_0 := blk_frozen BK190.out 0
        have hfz11_1 := blk_frozen BK190.out 1
        have hfz11_2 := blk_frozen BK190.out 2
        have hfz11_3 := blk_frozen BK190.out 3
        go_wp2
        go_meet
        case rel => exact ⟨_, ((a0_1 == 1)), (by first | rfl | (simp; done) | (simp [*]; done)), H', ⟨by first | omega | exact Nat.le_refl _⟩, ⟨by (with_reducible repeat (first | refine blk_drewN ?_ _ | refine blk_drew ?_ | refine blk_alloc ?_ _)); exact BK190.out⟩, ⟨by repeat (first | (with_reducible first | exact HB.out | apply below_alloc | apply pw_below_drewN | apply below_drew1 | refine below_set ?_ GE190.out) | exact HB.out)⟩⟩
      · rw [if_neg c10] at H
        have c10b0 : (a0_0 == 2) = false := beq_eq_false_iff_ne.mpr c10
        have c10b1 : (a0_0 != 2) = true := bne_iff_ne.mpr c10
        (first | rw [c10b0] | (simp only [i64_w, i32_w]; rw [c10b0]) | skip)
        have H' := Aside0.mk H
        clear H
        have hcz12_0 : w8.cell? ⟨gb190, 0, none⟩ = some (.int .i64 a0_0) := (blk_cell BK190.out 0).trans rfl
        have hcz12_1 : w8.cell? ⟨gb190, 1, none⟩ = some (.int .i64 a0_1) := (blk_cell BK190.out 1).trans rfl
        have hcz12_2 : w8.cell? ⟨gb190, 2, none⟩ = some (.string a0_2) := (blk_cell BK190.out 2).trans rfl
        have hcz12_3 : w8.cell? ⟨gb190, 3, none⟩ = some (.slice A0_3 l0_3.length c0_3) := (blk_cell BK190.out 3).trans rfl
        have hfz12_0 := blk_frozen BK190.out 0
        have hfz12_1 := blk_frozen BK190.out 1
        have hfz12_2 := blk_frozen BK190.out 2
        have hfz12_3 := blk_frozen BK190.out 3
        go_wp2
        go_meet
        case rel => exact ⟨_, (false), (by first | rfl | (simp; done) | (simp [*]; done)), H', ⟨by first | omega | exact Nat.le_refl _⟩, ⟨by (with_reducible repeat (first | refine blk_drewN ?_ _ | refine blk_drew ?_ | refine blk_alloc ?_ _)); exact BK190.out⟩, ⟨by repeat (first | (with_reducible first | exact HB.out | apply below_alloc | apply pw_below_drewN | apply below_drew1 | refine below_set ?_ GE190.out) | exact HB.out)⟩⟩
    case rest =>
      clear HC7
      try clear c1
      try clear c2
      try clear c2b0
      try clear c2b1
      try clear p2
      try clear c4
      try clear c5
      try clear c10
      try clear c10b0
      try clear c10b1
      try clear hcz11_0
      try clear hcz11_1
      try clear hcz11_2
      try clear hcz11_3
      try clear hcz12_0
      try clear hcz12_1
      try clear hcz12_2
      try clear hcz12_3
      try clear hcz5_0
      try clear hcz5_1
      try clear hcz5_2
      try clear hcz5_3
      try clear hcz9_0
      try clear hcz9_1
      try clear hcz9_2
      try clear hcz9_3
      try clear hfz11_0
      try clear hfz11_1
      try clear hfz11_2
      try clear hfz11_3
      try clear hfz12_0
      try clear hfz12_1
      try clear hfz12_2
      try clear hfz12_3
      try clear hfz5_0
      try clear hfz5_1
      try clear hfz5_2
      try clear hfz5_3
      try clear hfz9_0
      try clear hfz9_1
      try clear hfz9_2
      try clear hfz9_3
      obtain ⟨kq, x22_6, rfl, HA, HJ6, BK190, HB⟩ := hcut
      cases kq with
      | zero => exact absurd HA.out (by simp [switchyardref06_Print.j0])
      | succ kj6 =>
        have H := HA.out
        clear HA
        simp only [switchyardref06_Print.j0] at H
        by_cases c13 : x22_6 = true
        · subst c13
          have H1 : (some (⟨#[116, 114, 117, 101]⟩ : ByteArray)) = some r := by rw [if_pos rfl] at H; exact H
          clear H
          have H := H1
          clear H1
          obtain rfl := Option.some.inj H
          go_wp2
          go_ret
          exact ⟨by first | rfl | (simp [errW_none, errW_some] <;> rfl) | (simp [*, errW_none, errW_some] <;> rfl), by repeat (first | (with_reducible first | exact HB.out | apply below_alloc | apply pw_below_drewN | apply below_drew1 | refine below_set ?_ GE190.out) | exact HB.out)⟩
        · replace c13 := Bool.eq_false_iff.mpr c13
          subst c13
          have H1 : (if a0_0 = 2 then (some (⟨#[102, 97, 108, 115, 101]⟩ : ByteArray)) else (if a0_0 = 4 then (if 1 + a0_2.size ≤ 9223372036854775807 then (some ((⟨#[39]⟩ : ByteArray) ++ a0_2)) else (none)) else (if a0_0 = 3 then (if ([] : List Int).length < 140737488355328 then (switchyardref06_Print.l0 kj6 (([] : List Int) ++ [34]) 0 a0_0 a0_1 a0_2 l0_3) else (none)) else (if a0_0 = 5 then (switchyardref06_Print.l1 kj6 (⟨#[91]⟩ : ByteArray) l0_3 (l0_3.length : Int) 0) else (some (⟨#[110, 111, 110, 101]⟩ : ByteArray)))))) = some r := by rw [if_neg (show ¬ (false = true) by decide)] at H; exact H
          clear H
          have H := H1
          clear H1
          by_cases c14 : a0_0 = 2
          · rw [if_pos c14] at H
            have c14b0 : (a0_0 == 2) = true := beq_iff_eq.mpr c14
            have c14b1 : (a0_0 != 2) = false := bne_eq_false_iff_eq.mpr c14
            clear c14
            obtain rfl := Option.some.inj H
            have hcz15_0 : wc.cell? ⟨gb190, 0, none⟩ = some (.int .i64 a0_0) := (blk_cell BK190.out 0).trans rfl
            have hcz15_1 : wc.cell? ⟨gb190, 1, none⟩ = some (.int .i64 a0_1) := (blk_cell BK190.out 1).trans rfl
            have hcz15_2 : wc.cell? ⟨gb190, 2, none⟩ = some (.string a0_2) := (blk_cell BK190.out 2).trans rfl
            have hcz15_3 : wc.cell? ⟨gb190, 3, none⟩ = some (.slice A0_3 l0_3.length c0_3) := (blk_cell BK190.out 3).trans rfl
            have hfz15_0 := blk_frozen BK190.out 0
            have hfz15_1 := blk_frozen BK190.out 1
            have hfz15_2 := blk_frozen BK190.out 2
            have hfz15_3 := blk_frozen BK190.out 3
            go_wp2
            go_ret
            exact ⟨by first | rfl | (simp [errW_none, errW_some] <;> rfl) | (simp [*, errW_none, errW_some] <;> rfl), by repeat (first | (with_reducible first | exact HB.out | apply below_alloc | apply pw_below_drewN | apply below_drew1 | refine below_set ?_ GE190.out) | exact HB.out)⟩
          · rw [if_neg c14] at H
            have c14b0 : (a0_0 == 2) = false := beq_eq_false_iff_ne.mpr c14
            have c14b1 : (a0_0 != 2) = true := bne_iff_ne.mpr c14
            by_cases c16 : a0_0 = 4
            · rw [if_pos c16] at H
              have c16b0 : (a0_0 == 4) = true := beq_iff_eq.mpr c16
              have c16b1 : (a0_0 != 4) = false := bne_eq_false_iff_eq.mpr c16
              clear c16
              by_cases c17 : 1 + a0_2.size ≤ 9223372036854775807
              · rw [if_pos c17] at H
                have c17b0 := eq_true c17
                have c17b1 : decide (1 + a0_2.size ≤ 9223372036854775807) = true := decide_eq_true c17
                try have c17b2 : (9223372036854775807 < 1 + a0_2.size) = False := eq_false (Nat.not_lt.2 c17)
                try (have c17s := c17; simp only [ByteArray.size_append, bsize_mk, List.size_toArray, List.length_cons, List.length_nil, Nat.reduceAdd, Nat.zero_add] at c17s)
                try have c17s2 := eq_false (Nat.not_lt.2 c17s)
                obtain rfl := Option.some.inj H
                have hcz18_0 : wc.cell? ⟨gb190, 0, none⟩ = some (.int .i64 a0_0) := (blk_cell BK190.out 0).trans rfl
                have hcz18_1 : wc.cell? ⟨gb190, 1, none⟩ = some (.int .i64 a0_1) := (blk_cell BK190.out 1).trans rfl
                have hcz18_2 : wc.cell? ⟨gb190, 2, none⟩ = some (.string a0_2) := (blk_cell BK190.out 2).trans rfl
                have hcz18_3 : wc.cell? ⟨gb190, 3, none⟩ = some (.slice A0_3 l0_3.length c0_3) := (blk_cell BK190.out 3).trans rfl
                have hfz18_0 := blk_frozen BK190.out 0
                have hfz18_1 := blk_frozen BK190.out 1
                have hfz18_2 := blk_frozen BK190.out 2
                have hfz18_3 := blk_frozen BK190.out 3
                go_wp2
                go_ret
                exact ⟨by first | rfl | (simp [errW_none, errW_some] <;> rfl) | (simp [*, errW_none, errW_some] <;> rfl), by repeat (first | (with_reducible first | exact HB.out | apply below_alloc | apply pw_below_drewN | apply below_drew1 | refine below_set ?_ GE190.out) | exact HB.out)⟩
              · rw [if_neg c17] at H
                exact absurd H (by simp)
            · rw [if_neg c16] at H
              have c16b0 : (a0_0 == 4) = false := beq_eq_false_iff_ne.mpr c16
              have c16b1 : (a0_0 != 4) = true := bne_iff_ne.mpr c16
              by_cases c19 : a0_0 = 3
              · rw [if_pos c19] at H
                have c19b0 : (a0_0 == 3) = true := beq_iff_eq.mpr c19
                have c19b1 : (a0_0 != 3) = false := bne_eq_false_iff_eq.mpr c19
                clear c19
                by_cases c20 : ([] : List Int).length < 140737488355328
                · rw [if_pos c20] at H
                  have LMc20 := Aside0.mk c20
                  clear c20
                  obtain ⟨y192, hy192⟩ : ∃ y_ : List Int, y_ = (([] : List Int) ++ [34]) := ⟨_, rfl⟩
                  replace H : (switchyardref06_Print.l0 kj6 y192 0 a0_0 a0_1 a0_2 l0_3) = some r := by first | (rw [hy192]; with_reducible exact H) | (have H2_ := (Option.bind_some _ _).symm.trans H; rw [hy192]; with_reducible exact H2_) | (have H2_ := (Option.bind_some _ _).symm.trans H; with_reducible exact H2_) | with_reducible exact H | (rw [hy192]; exact H) | exact H
                  have Ny192 := Aside0.mk hy192
                  clear hy192
                  have H' := Aside0.mk H
                  clear H
                  have hcz21_0 : wc.cell? ⟨gb190, 0, none⟩ = some (.int .i64 a0_0) := (blk_cell BK190.out 0).trans rfl
                  have hcz21_1 : wc.cell? ⟨gb190, 1, none⟩ = some (.int .i64 a0_1) := (blk_cell BK190.out 1).trans rfl
                  have hcz21_2 : wc.cell? ⟨gb190, 2, none⟩ = some (.string a0_2) := (blk_cell BK190.out 2).trans rfl
                  have hcz21_3 : wc.cell? ⟨gb190, 3, none⟩ = some (.slice A0_3 l0_3.length c0_3) := (blk_cell BK190.out 3).trans rfl
                  have hfz21_0 := blk_frozen BK190.out 0
                  have hfz21_1 := blk_frozen BK190.out 1
                  have hfz21_2 := blk_frozen BK190.out 2
                  have hfz21_3 := blk_frozen BK190.out 3
                  go_wp2_with (first | ((with_reducible refine gate_builtin (b := .append) (xs := #[.tmp 35, .tmp 36]) rfl ?_); at_builtin; refine Kd.R_append (Kd.int .u8) (w0 := w) w.heap.size rfl (.tmp 35) (.tmp 36) 62 5 (.int .u8 0) 1 rfl Tryd.underlying62 info5 rfl (by decide) (by omega) (.slice none 0 0) ([] : List Int) 34 [.int .u8 34] (fun _ => True) (fun _ => False) rfl rfl ?aP (fun _ hk => hk.elim) ?aF ?aO ?aB ?aS ?aL ?_; (case aP => exact rfl); (case aB => exact (by repeat (first | (with_reducible first | exact HB.out | apply below_alloc | apply pw_below_drewN | apply below_drew1 | refine below_set ?_ GE190.out) | exact HB.out))); (case aF => exact (fun _ _ => trivial)); (case aO => exact ((Kd.R_nil _ _ _ _ (fun _ => True)))); (case aS => exact (below_size (by repeat (first | (with_reducible first | exact HB.out | apply below_alloc | apply pw_below_drewN | apply below_drew1 | refine below_set ?_ GE190.out) | exact HB.out)))); (case aL => have := LMc20.out; omega); intro v193 w22 ho hb hg hat; rw [← Ny192.out] at ho; have n0_ := Aside0.mk (blk_grown (g := gb190) (o := .cells #[.int .i64 a0_0, .int .i64 a0_1, .string a0_2, .slice A0_3 l0_3.length c0_3] 60 (0, 0)) (by (with_reducible repeat (first | refine blk_drewN ?_ _ | refine blk_drew ?_ | refine blk_alloc ?_ _)); exact BK190.out) hg (by simp [Value.ownBlock])); have n1_ := Aside0.mk (hb); have n2_ := Aside0.mk (ho); clear BK190; clear HB; have BK190 := n0_; have HB := n1_; have HO194 := n2_; clear n0_ n1_ n2_; clear ho hb hg hat))
                  go_loopg [3, 4] kj6 (fun kq v3 v4 w' => ∃ (x3_2 : List Int) (x4_2 : Int), v4 = .int .i64 x4_2 ∧ Aside0 (switchyardref06_Print.l0 kq x3_2 x4_2 a0_0 a0_1 a0_2 l0_3 = some r) ∧ Aside0 (kq ≤ kj6) ∧ Aside0 (Kd.R (Kd.int .u8) 5 w' w.heap.size (fun _ => True) v3 x3_2) ∧ Aside0 (w'.heap[gb190]? = some (.cells #[.int .i64 a0_0, .int .i64 a0_1, .string a0_2, (.slice A0_3 l0_3.length c0_3)] 60 (0, 0))) ∧ Aside0 (Below w.heap.size w w'))
                  case atStart => exact ⟨(y192), (0), (by first | rfl | (simp; done) | (simp [*]; done)), H', ⟨Nat.le_refl _⟩, ⟨by (with_reducible repeat (first | apply Kd.R_alloc | apply Kd.R_drewN | apply Kd.R_drew)); exact HO194.out⟩, ⟨by (with_reducible repeat (first | refine blk_drewN ?_ _ | refine blk_drew ?_ | refine blk_alloc ?_ _)); exact BK190.out⟩, ⟨by repeat (first | (with_reducible first | exact HB.out | apply below_alloc | apply pw_below_drewN | apply below_drew1 | refine below_set ?_ GE190.out) | exact HB.out)⟩⟩
                  case round =>
                    clear H'
                    try clear c1
                    try clear c2
                    try clear c2b0
                    try clear c2b1
                    try clear p2
                    try clear c4
                    try clear c5
                    try clear c10
                    try clear c10b0
                    try clear c10b1
                    try clear c13
                    try clear c14
                    try clear c14b0
                    try clear c14b1
                    try clear c16
                    try clear c16b0
                    try clear c16b1
                    try clear c17
                    try clear c17b0
                    try clear c17b1
                    try clear c17b2
                    try clear c19
                    try clear c19b0
                    try clear c19b1
                    try clear c20
                    try clear hcz11_0
                    try clear hcz11_1
                    try clear hcz11_2
                    try clear hcz11_3
                    try clear hcz12_0
                    try clear hcz12_1
                    try clear hcz12_2
                    try clear hcz12_3
                    try clear hcz15_0
                    try clear hcz15_1
                    try clear hcz15_2
                    try clear hcz15_3
                    try clear hcz18_0
                    try clear hcz18_1
                    try clear hcz18_2
                    try clear hcz18_3
                    try clear hcz21_0
                    try clear hcz21_1
                    try clear hcz21_2
                    try clear hcz21_3
                    try clear hcz5_0
                    try clear hcz5_1
                    try clear hcz5_2
                    try clear hcz5_3
                    try clear hcz9_0
                    try clear hcz9_1
                    try clear hcz9_2
                    try clear hcz9_3
                    try clear hfz11_0
                    try clear hfz11_1
                    try clear hfz11_2
                    try clear hfz11_3
                    try clear hfz12_0
                    try clear hfz12_1
                    try clear hfz12_2
                    try clear hfz12_3
                    try clear hfz15_0
                    try clear hfz15_1
                    try clear hfz15_2
                    try clear hfz15_3
                    try clear hfz18_0
                    try clear hfz18_1
                    try clear hfz18_2
                    try clear hfz18_3
                    try clear hfz21_0
                    try clear hfz21_1
                    try clear hfz21_2
                    try clear hfz21_3
                    try clear hfz5_0
                    try clear hfz5_1
                    try clear hfz5_2
                    try clear hfz5_3
                    try clear hfz9_0
                    try clear hfz9_1
                    try clear hfz9_2
                    try clear hfz9_3
                    try clear p2
                    obtain ⟨x3_2, x4_2, rfl, HA, HK2, HO_3, BK190, HB⟩ := hrel
                    cases gk with
                    | zero => exact absurd HA.out (by simp [switchyardref06_Print.l0])
                    | succ k2 =>
                      have H := HA.out
                      clear HA
                      simp only [switchyardref06_Print.l0] at H
                      by_cases c23 : x4_2 < (a0_2.size : Int)
                      · rw [if_pos c23] at H
                        have c23b0 : decide (x4_2 < (a0_2.size : Int)) = true := decide_eq_true c23
                        clear c23
                        by_cases c24 : 0 ≤ x4_2
                        · rw [if_pos c24] at H
                          have c24b0 : decide (0 ≤ x4_2) = true := decide_eq_true c24
                          clear c24
                          have HC26 := Aside0.mk H
                          clear H
                          have hcz27_0 : wr.cell? ⟨gb190, 0, none⟩ = some (.int .i64 a0_0) := (blk_cell BK190.out 0).trans rfl
                          have hcz27_1 : wr.cell? ⟨gb190, 1, none⟩ = some (.int .i64 a0_1) := (blk_cell BK190.out 1).trans rfl
                          have hcz27_2 : wr.cell? ⟨gb190, 2, none⟩ = some (.string a0_2) := (blk_cell BK190.out 2).trans rfl
                          have hcz27_3 : wr.cell? ⟨gb190, 3, none⟩ = some (.slice A0_3 l0_3.length c0_3) := (blk_cell BK190.out 3).trans rfl
                          have hfz27_0 := blk_frozen BK190.out 0
                          have hfz27_1 := blk_frozen BK190.out 1
                          have hfz27_2 := blk_frozen BK190.out 2
                          have hfz27_3 := blk_frozen BK190.out 3
                          have p25 : 0 ≤ (x4_2 : Int) := of_decide_eq_true (by first | (with_reducible assumption) | assumption)
                          have q25 : x4_2 < (a0_2.size : Int) := of_decide_eq_true (by first | (with_reducible assumption) | assumption)
                          have hx25 := bt_at a0_2 x4_2
                          replace p25 := eq_true p25
                          replace q25 := eq_true q25
                          go_upto_region 16 with (fail)
                          go_cut [54] (fun v54 wc => ∃ (kq : Nat) (x54_25 : Bool), v54 = .bool x54_25 ∧ Aside0 (switchyardref06_Print.j2 kq x3_2 x4_2 (bt a0_2 x4_2) x54_25 a0_0 a0_1 a0_2 l0_3 = some r) ∧ Aside0 (kq ≤ k2) ∧ Aside0 (Kd.R (Kd.int .u8) 5 wc w.heap.size (fun _ => True) u3 x3_2) ∧ Aside0 (wc.heap[gb190]? = some (.cells #[.int .i64 a0_0, .int .i64 a0_1, .string a0_2, (.slice A0_3 l0_3.length c0_3)] 60 (0, 0))) ∧ Aside0 (Below w.heap.size w wc))
                          case first =>
                            have H := HC26.out
                            clear HC26
                            by_cases c28 : (bt a0_2 x4_2) < 32
                            · rw [if_pos c28] at H
                              have c28b0 : decide ((bt a0_2 x4_2) < 32) = true := decide_eq_true c28
                              clear c28
                              (first | rw [c28b0] | (simp only [i64_w, i32_w]; rw [c28b0]) | skip)
                              have H' := Aside0.mk H
                              clear H
                              go_wp2
                              go_meet
                              case rel => exact ⟨_, (true), (by first | rfl | (simp; done) | (simp [*]; done)), H', ⟨by have := HJ6.out; have := HK2.out; first | omega | exact Nat.le_refl _⟩, ⟨by (with_reducible repeat (first | apply Kd.R_alloc | apply Kd.R_drewN | apply Kd.R_drew)); exact HO_3.out⟩, ⟨by (with_reducible repeat (first | refine blk_drewN ?_ _ | refine blk_drew ?_ | refine blk_alloc ?_ _)); exact BK190.out⟩, ⟨by repeat (first | (with_reducible first | exact HB.out | apply below_alloc | apply pw_below_drewN | apply below_drew1 | refine below_set ?_ GE190.out) | exact HB.out)⟩⟩
                            · rw [if_neg c28] at H
                              have c28b0 : decide ((bt a0_2 x4_2) < 32) = false := decide_eq_false c28
                              clear c28
                              (first | rw [c28b0] | (simp only [i64_w, i32_w]; rw [c28b0]) | skip)
                              have H' := Aside0.mk H
                              clear H
                              go_wp2
                              go_meet
                              case rel => exact ⟨_, (decide ((bt a0_2 x4_2) > 126)), (by first | rfl | (simp; done) | (simp [*]; done)), H', ⟨by have := HJ6.out; have := HK2.out; first | omega | exact Nat.le_refl _⟩, ⟨by (with_reducible repeat (first | apply Kd.R_alloc | apply Kd.R_drewN | apply Kd.R_drew)); exact HO_3.out⟩, ⟨by (with_reducible repeat (first | refine blk_drewN ?_ _ | refine blk_drew ?_ | refine blk_alloc ?_ _)); exact BK190.out⟩, ⟨by repeat (first | (with_reducible first | exact HB.out | apply below_alloc | apply pw_below_drewN | apply below_drew1 | refine below_set ?_ GE190.out) | exact HB.out)⟩⟩
                          case rest =>
                            clear HC26
                            try clear c1
                            try clear c2
                            try clear c2b0
                            try clear c2b1
                            try clear p2
                            try clear q2
                            try clear hx2
                            try clear c4
                            try clear c5
                            try clear c10
                            try clear c10b0
                            try clear c10b1
                            try clear c13
                            try clear c14
                            try clear c14b0
                            try clear c14b1
                            try clear c16
                            try clear c16b0
                            try clear c16b1
                            try clear c17
                            try clear c17b0
                            try clear c17b1
                            try clear c17b2
                            try clear c19
                            try clear c19b0
                            try clear c19b1
                            try clear c20
                            try clear c23
                            try clear c23b0
                            try clear c24
                            try clear c24b0
                            try clear p25
                            try clear q25
                            try clear hx25
                            try clear c28
                            try clear c28b0
                            try clear hcz11_0
                            try clear hcz11_1
                            try clear hcz11_2
                            try clear hcz11_3
                            try clear hcz12_0
                            try clear hcz12_1
                            try clear hcz12_2
                            try clear hcz12_3
                            try clear hcz15_0
                            try clear hcz15_1
                            try clear hcz15_2
                            try clear hcz15_3
                            try clear hcz18_0
                            try clear hcz18_1
                            try clear hcz18_2
                            try clear hcz18_3
                            try clear hcz21_0
                            try clear hcz21_1
                            try clear hcz21_2
                            try clear hcz21_3
                            try clear hcz27_0
                            try clear hcz27_1
                            try clear hcz27_2
                            try clear hcz27_3
                            try clear hcz5_0
                            try clear hcz5_1
                            try clear hcz5_2
                            try clear hcz5_3
                            try clear hcz9_0
                            try clear hcz9_1
                            try clear hcz9_2
                            try clear hcz9_3
                            try clear hfz11_0
                            try clear hfz11_1
                            try clear hfz11_2
                            try clear hfz11_3
                            try clear hfz12_0
                            try clear hfz12_1
                            try clear hfz12_2
                            try clear hfz12_3
                            try clear hfz15_0
                            try clear hfz15_1
                            try clear hfz15_2
                            try clear hfz15_3
                            try clear hfz18_0
                            try clear hfz18_1
                            try clear hfz18_2
                            try clear hfz18_3
                            try clear hfz21_0
                            try clear hfz21_1
                            try clear hfz21_2
                            try clear hfz21_3
                            try clear hfz27_0
                            try clear hfz27_1
                            try clear hfz27_2
                            try clear hfz27_3
                            try clear hfz5_0
                            try clear hfz5_1
                            try clear hfz5_2
                            try clear hfz5_3
                            try clear hfz9_0
                            try clear hfz9_1
                            try clear hfz9_2
                            try clear hfz9_3
                            try clear p2
                            try clear p25
                            try clear q25
                            obtain ⟨kq, x54_25, rfl, HA, HJ25, HO_3, BK190, HB⟩ := hcut
                            cases kq with
                            | zero => exact absurd HA.out (by simp [switchyardref06_Print.j2])
                            | succ kj25 =>
                              have H := HA.out
                              clear HA
                              simp only [switchyardref06_Print.j2] at H
                              by_cases c29 : x54_25 = true
                              · subst c29
                                have H1 : (if x3_2.length < 140737488355328 then ((some (x3_2 ++ [92] : List Int)).bind fun y198 => (if y198.length < 140737488355328 then ((some (y198 ++ [120] : List Int)).bind fun y201 => (if 0 ≤ ((Int.tdiv (bt a0_2 x4_2) 16) % 256) then (if ((Int.tdiv (bt a0_2 x4_2) 16) % 256) < 16 then (if y201.length < 140737488355328 then ((some (y201 ++ [bt (⟨#[48, 49, 50, 51, 52, 53, 54, 55, 56, 57, 97, 98, 99, 100, 101, 102]⟩ : ByteArray) ((Int.tdiv (bt a0_2 x4_2) 16) % 256)] : List Int)).bind fun y204 => (if 0 ≤ (Int.tmod (bt a0_2 x4_2) 16) then (if (Int.tmod (bt a0_2 x4_2) 16) < 16 then (if y204.length < 140737488355328 then (switchyardref06_Print.l0 kj25 (y204 ++ [bt (⟨#[48, 49, 50, 51, 52, 53, 54, 55, 56, 57, 97, 98, 99, 100, 101, 102]⟩ : ByteArray) (Int.tmod (bt a0_2 x4_2) 16)]) (wrap64 (x4_2 + 1)) a0_0 a0_1 a0_2 l0_3) else (none)) else (none)) else (none))) else (none)) else (none)) else (none))) else (none))) else (none)) = some r := by rw [if_pos rfl] at H; exact H
                                clear H
                                have H := H1
                                clear H1
                                by_cases c30 : x3_2.length < 140737488355328
                                · rw [if_pos c30] at H
                                  have LMc30 := Aside0.mk c30
                                  clear c30
                                  obtain ⟨y198, hy198⟩ : ∃ y_ : List Int, y_ = (x3_2 ++ [92]) := ⟨_, rfl⟩
                                  replace H : (if y198.length < 140737488355328 then ((some (y198 ++ [120] : List Int)).bind fun y201 => (if 0 ≤ ((Int.tdiv (bt a0_2 x4_2) 16) % 256) then (if ((Int.tdiv (bt a0_2 x4_2) 16) % 256) < 16 then (if y201.length < 140737488355328 then ((some (y201 ++ [bt (⟨#[48, 49, 50, 51, 52, 53, 54, 55, 56, 57, 97, 98, 99, 100, 101, 102]⟩ : ByteArray) ((Int.tdiv (bt a0_2 x4_2) 16) % 256)] : List Int)).bind fun y204 => (if 0 ≤ (Int.tmod (bt a0_2 x4_2) 16) then (if (Int.tmod (bt a0_2 x4_2) 16) < 16 then (if y204.length < 140737488355328 then (switchyardref06_Print.l0 kj25 (y204 ++ [bt (⟨#[48, 49, 50, 51, 52, 53, 54, 55, 56, 57, 97, 98, 99, 100, 101, 102]⟩ : ByteArray) (Int.tmod (bt a0_2 x4_2) 16)]) (wrap64 (x4_2 + 1)) a0_0 a0_1 a0_2 l0_3) else (none)) else (none)) else (none))) else (none)) else (none)) else (none))) else (none)) = some r := by first | (rw [hy198]; with_reducible exact H) | (have H2_ := (Option.bind_some _ _).symm.trans H; rw [hy198]; with_reducible exact H2_) | (have H2_ := (Option.bind_some _ _).symm.trans H; with_reducible exact H2_) | with_reducible exact H | (rw [hy198]; exact H) | exact H
                                  have Ny198 := Aside0.mk hy198
                                  clear hy198
                                  by_cases c31 : y198.length < 140737488355328
                                  · rw [if_pos c31] at H
                                    have LMc31 := Aside0.mk c31
                                    clear c31
                                    obtain ⟨y201, hy201⟩ : ∃ y_ : List Int, y_ = (y198 ++ [120]) := ⟨_, rfl⟩
                                    replace H : (if 0 ≤ ((Int.tdiv (bt a0_2 x4_2) 16) % 256) then (if ((Int.tdiv (bt a0_2 x4_2) 16) % 256) < 16 then (if y201.length < 140737488355328 then ((some (y201 ++ [bt (⟨#[48, 49, 50, 51, 52, 53, 54, 55, 56, 57, 97, 98, 99, 100, 101, 102]⟩ : ByteArray) ((Int.tdiv (bt a0_2 x4_2) 16) % 256)] : List Int)).bind fun y204 => (if 0 ≤ (Int.tmod (bt a0_2 x4_2) 16) then (if (Int.tmod (bt a0_2 x4_2) 16) < 16 then (if y204.length < 140737488355328 then (switchyardref06_Print.l0 kj25 (y204 ++ [bt (⟨#[48, 49, 50, 51, 52, 53, 54, 55, 56, 57, 97, 98, 99, 100, 101, 102]⟩ : ByteArray) (Int.tmod (bt a0_2 x4_2) 16)]) (wrap64 (x4_2 + 1)) a0_0 a0_1 a0_2 l0_3) else (none)) else (none)) else (none))) else (none)) else (none)) else (none)) = some r := by first | (rw [hy201]; with_reducible exact H) | (have H2_ := (Option.bind_some _ _).symm.trans H; rw [hy201]; with_reducible exact H2_) | (have H2_ := (Option.bind_some _ _).symm.trans H; with_reducible exact H2_) | with_reducible exact H | (rw [hy201]; exact H) | exact H
                                    have Ny201 := Aside0.mk hy201
                                    clear hy201
                                    obtain ⟨ji32, hji32⟩ : ∃ j_ : Int, ((Int.tdiv (bt a0_2 x4_2) 16) % 256) = j_ := ⟨_, rfl⟩
                                    replace H : (if 0 ≤ (ji32) then (if (ji32) < 16 then (if y201.length < 140737488355328 then ((some (y201 ++ [bt (⟨#[48, 49, 50, 51, 52, 53, 54, 55, 56, 57, 97, 98, 99, 100, 101, 102]⟩ : ByteArray) (ji32)] : List Int)).bind fun y204 => (if 0 ≤ (Int.tmod (bt a0_2 x4_2) 16) then (if (Int.tmod (bt a0_2 x4_2) 16) < 16 then (if y204.length < 140737488355328 then (switchyardref06_Print.l0 kj25 (y204 ++ [bt (⟨#[48, 49, 50, 51, 52, 53, 54, 55, 56, 57, 97, 98, 99, 100, 101, 102]⟩ : ByteArray) (Int.tmod (bt a0_2 x4_2) 16)]) (wrap64 (x4_2 + 1)) a0_0 a0_1 a0_2 l0_3) else (none)) else (none)) else (none))) else (none)) else (none)) else (none)) = some r := by first | (rw [hji32] at H; exact H) | (simp only [hji32] at H ⊢; exact H)
                                    by_cases c33 : 0 ≤ (ji32)
                                    · rw [if_pos c33] at H
                                      have c33b0 : decide (0 ≤ (ji32)) = true := decide_eq_true c33
                                      clear c33
                                      by_cases c34 : (ji32) < 16
                                      · rw [if_pos c34] at H
                                        have c34b0 : decide ((ji32) < 16) = true := decide_eq_true c34
                                        clear c34
                                        by_cases c36 : y201.length < 140737488355328
                                        · rw [if_pos c36] at H
                                          have LMc36 := Aside0.mk c36
                                          clear c36
                                          obtain ⟨y204, hy204⟩ : ∃ y_ : List Int, y_ = (y201 ++ [bt (⟨#[48, 49, 50, 51, 52, 53, 54, 55, 56, 57, 97, 98, 99, 100, 101, 102]⟩ : ByteArray) (ji32)]) := ⟨_, rfl⟩
                                          replace H : (if 0 ≤ (Int.tmod (bt a0_2 x4_2) 16) then (if (Int.tmod (bt a0_2 x4_2) 16) < 16 then (if y204.length < 140737488355328 then (switchyardref06_Print.l0 kj25 (y204 ++ [bt (⟨#[48, 49, 50, 51, 52, 53, 54, 55, 56, 57, 97, 98, 99, 100, 101, 102]⟩ : ByteArray) (Int.tmod (bt a0_2 x4_2) 16)]) (wrap64 (x4_2 + 1)) a0_0 a0_1 a0_2 l0_3) else (none)) else (none)) else (none)) = some r := by first | (rw [hy204]; with_reducible exact H) | (have H2_ := (Option.bind_some _ _).symm.trans H; rw [hy204]; with_reducible exact H2_) | (have H2_ := (Option.bind_some _ _).symm.trans H; with_reducible exact H2_) | with_reducible exact H | (rw [hy204]; exact H) | exact H
                                          have Ny204 := Aside0.mk hy204
                                          clear hy204
                                          obtain ⟨ji37, hji37⟩ : ∃ j_ : Int, (Int.tmod (bt a0_2 x4_2) 16) = j_ := ⟨_, rfl⟩
                                          replace H : (if 0 ≤ (ji37) then (if (ji37) < 16 then (if y204.length < 140737488355328 then (switchyardref06_Print.l0 kj25 (y204 ++ [bt (⟨#[48, 49, 50, 51, 52, 53, 54, 55, 56, 57, 97, 98, 99, 100, 101, 102]⟩ : ByteArray) (ji37)]) (wrap64 (x4_2 + 1)) a0_0 a0_1 a0_2 l0_3) else (none)) else (none)) else (none)) = some r := by first | (rw [hji37] at H; exact H) | (simp only [hji37] at H ⊢; exact H)
                                          by_cases c38 : 0 ≤ (ji37)
                                          · rw [if_pos c38] at H
                                            have c38b0 : decide (0 ≤ (ji37)) = true := decide_eq_true c38
                                            clear c38
                                            by_cases c39 : (ji37) < 16
                                            · rw [if_pos c39] at H
                                              have c39b0 : decide ((ji37) < 16) = true := decide_eq_true c39
                                              clear c39
                                              by_cases c41 : y204.length < 140737488355328
                                              · rw [if_pos c41] at H
                                                have LMc41 := Aside0.mk c41
                                                clear c41
                                                obtain ⟨y207, hy207⟩ : ∃ y_ : List Int, y_ = (y204 ++ [bt (⟨#[48, 49, 50, 51, 52, 53, 54, 55, 56, 57, 97, 98, 99, 100, 101, 102]⟩ : ByteArray) (ji37)]) := ⟨_, rfl⟩
                                                replace H : (switchyardref06_Print.l0 kj25 y207 (wrap64 (x4_2 + 1)) a0_0 a0_1 a0_2 l0_3) = some r := by first | (rw [hy207]; with_reducible exact H) | (have H2_ := (Option.bind_some _ _).symm.trans H; rw [hy207]; with_reducible exact H2_) | (have H2_ := (Option.bind_some _ _).symm.trans H; with_reducible exact H2_) | with_reducible exact H | (rw [hy207]; exact H) | exact H
                                                have Ny207 := Aside0.mk hy207
                                                clear hy207
                                                have H' := Aside0.mk H
                                                clear H
                                                go_wp2_with (first | ((with_reducible refine gate_builtin (b := .append) (xs := #[.tmp 55, .tmp 56]) rfl ?_); at_builtin; refine Kd.R_append (Kd.int .u8) (w0 := w) w.heap.size rfl (.tmp 55) (.tmp 56) 62 5 (.int .u8 0) 1 rfl Tryd.underlying62 info5 rfl (by decide) (by omega) u3 x3_2 92 [.int .u8 92] (fun _ => True) (fun _ => False) rfl rfl ?aP (fun _ hk => hk.elim) ?aF ?aO ?aB ?aS ?aL ?_; (case aP => exact rfl); (case aB => exact (by repeat (first | (with_reducible first | exact HB.out | apply below_alloc | apply pw_below_drewN | apply below_drew1 | refine below_set ?_ GE190.out) | exact HB.out))); (case aF => exact (fun _ _ => trivial)); (case aO => exact (by (with_reducible repeat (first | apply Kd.R_alloc | apply Kd.R_drewN | apply Kd.R_drew)); exact HO_3.out)); (case aS => exact (below_size (by repeat (first | (with_reducible first | exact HB.out | apply below_alloc | apply pw_below_drewN | apply below_drew1 | refine below_set ?_ GE190.out) | exact HB.out)))); (case aL => have := LMc30.out; omega); intro v199 w42 ho hb hg hat; rw [← Ny198.out] at ho; have n0_ := Aside0.mk (blk_grown (g := gb190) (o := .cells #[.int .i64 a0_0, .int .i64 a0_1, .string a0_2, .slice A0_3 l0_3.length c0_3] 60 (0, 0)) (by (with_reducible repeat (first | refine blk_drewN ?_ _ | refine blk_drew ?_ | refine blk_alloc ?_ _)); exact BK190.out) hg (Kd.R_ne HO_3.out BK190.out (by decide))); have n1_ := Aside0.mk (hb); have n2_ := Aside0.mk (ho); clear BK190; clear HB; clear HO_3; have BK190 := n0_; have HB := n1_; have HO200 := n2_; clear n0_ n1_ n2_; clear ho hb hg hat) | ((with_reducible refine gate_builtin (b := .append) (xs := #[.tmp 58, .tmp 59]) rfl ?_); at_builtin; refine Kd.R_append (Kd.int .u8) (w0 := w) w.heap.size rfl (.tmp 58) (.tmp 59) 62 5 (.int .u8 0) 1 rfl Tryd.underlying62 info5 rfl (by decide) (by omega) v199 y198 120 [.int .u8 120] (fun _ => True) (fun _ => False) rfl rfl ?aP (fun _ hk => hk.elim) ?aF ?aO ?aB ?aS ?aL ?_; (case aP => exact rfl); (case aB => exact (by repeat (first | (with_reducible first | exact HB.out | apply below_alloc | apply pw_below_drewN | apply below_drew1 | refine below_set ?_ GE190.out) | exact HB.out))); (case aF => exact (fun _ _ => trivial)); (case aO => exact (by (with_reducible repeat (first | apply Kd.R_alloc | apply Kd.R_drewN | apply Kd.R_drew)); exact HO200.out)); (case aS => exact (below_size (by repeat (first | (with_reducible first | exact HB.out | apply below_alloc | apply pw_below_drewN | apply below_drew1 | refine below_set ?_ GE190.out) | exact HB.out)))); (case aL => have := LMc31.out; omega); intro v202 w43 ho hb hg hat; rw [← Ny201.out] at ho; have n0_ := Aside0.mk (blk_grown (g := gb190) (o := .cells #[.int .i64 a0_0, .int .i64 a0_1, .string a0_2, .slice A0_3 l0_3.length c0_3] 60 (0, 0)) (by (with_reducible repeat (first | refine blk_drewN ?_ _ | refine blk_drew ?_ | refine blk_alloc ?_ _)); exact BK190.out) hg (Kd.R_ne HO200.out BK190.out (by decide))); have n1_ := Aside0.mk (hb); have n2_ := Aside0.mk (ho); clear BK190; clear HB; clear HO200; have BK190 := n0_; have HB := n1_; have HO203 := n2_; clear n0_ n1_ n2_; clear ho hb hg hat; have p35 : 0 ≤ ((ji32) : Int) := of_decide_eq_true (by first | (with_reducible assumption) | assumption); have q35 : (ji32) < (16 : Int) := of_decide_eq_true (by first | (with_reducible assumption) | assumption); have hx35 := bt_at (⟨#[48, 49, 50, 51, 52, 53, 54, 55, 56, 57, 97, 98, 99, 100, 101, 102]⟩ : ByteArray) (ji32); replace p35 := eq_true p35; replace q35 := eq_true q35) | ((with_reducible refine gate_builtin (b := .append) (xs := #[.tmp 61, .tmp 65]) rfl ?_); at_builtin; refine Kd.R_append (Kd.int .u8) (w0 := w) w.heap.size rfl (.tmp 61) (.tmp 65) 62 5 (.int .u8 0) 1 rfl Tryd.underlying62 info5 rfl (by decide) (by omega) v202 y201 (bt (⟨#[48, 49, 50, 51, 52, 53, 54, 55, 56, 57, 97, 98, 99, 100, 101, 102]⟩ : ByteArray) (ji32)) [.int .u8 (bt (⟨#[48, 49, 50, 51, 52, 53, 54, 55, 56, 57, 97, 98, 99, 100, 101, 102]⟩ : ByteArray) (ji32))] (fun _ => True) (fun _ => False) rfl rfl ?aP (fun _ hk => hk.elim) ?aF ?aO ?aB ?aS ?aL ?_; (case aP => exact rfl); (case aB => exact (by repeat (first | (with_reducible first | exact HB.out | apply below_alloc | apply pw_below_drewN | apply below_drew1 | refine below_set ?_ GE190.out) | exact HB.out))); (case aF => exact (fun _ _ => trivial)); (case aO => exact (by (with_reducible repeat (first | apply Kd.R_alloc | apply Kd.R_drewN | apply Kd.R_drew)); exact HO203.out)); (case aS => exact (below_size (by repeat (first | (with_reducible first | exact HB.out | apply below_alloc | apply pw_below_drewN | apply below_drew1 | refine below_set ?_ GE190.out) | exact HB.out)))); (case aL => have := LMc36.out; omega); intro v205 w44 ho hb hg hat; rw [← Ny204.out] at ho; have n0_ := Aside0.mk (blk_grown (g := gb190) (o := .cells #[.int .i64 a0_0, .int .i64 a0_1, .string a0_2, .slice A0_3 l0_3.length c0_3] 60 (0, 0)) (by (with_reducible repeat (first | refine blk_drewN ?_ _ | refine blk_drew ?_ | refine blk_alloc ?_ _)); exact BK190.out) hg (Kd.R_ne HO203.out BK190.out (by decide))); have n1_ := Aside0.mk (hb); have n2_ := Aside0.mk (ho); clear BK190; clear HB; clear HO203; have BK190 := n0_; have HB := n1_; have HO206 := n2_; clear n0_ n1_ n2_; clear ho hb hg hat; have p40 : 0 ≤ ((ji37) : Int) := of_decide_eq_true (by first | (with_reducible assumption) | assumption); have q40 : (ji37) < (16 : Int) := of_decide_eq_true (by first | (with_reducible assumption) | assumption); have hx40 := bt_at (⟨#[48, 49, 50, 51, 52, 53, 54, 55, 56, 57, 97, 98, 99, 100, 101, 102]⟩ : ByteArray) (ji37); replace p40 := eq_true p40; replace q40 := eq_true q40) | ((with_reducible refine gate_builtin (b := .append) (xs := #[.tmp 79, .tmp 81]) rfl ?_); at_builtin; refine Kd.R_append (Kd.int .u8) (w0 := w) w.heap.size rfl (.tmp 79) (.tmp 81) 62 5 (.int .u8 0) 1 rfl Tryd.underlying62 info5 rfl (by decide) (by omega) v205 y204 (bt (⟨#[48, 49, 50, 51, 52, 53, 54, 55, 56, 57, 97, 98, 99, 100, 101, 102]⟩ : ByteArray) (ji37)) [.int .u8 (bt (⟨#[48, 49, 50, 51, 52, 53, 54, 55, 56, 57, 97, 98, 99, 100, 101, 102]⟩ : ByteArray) (ji37))] (fun _ => True) (fun _ => False) rfl rfl ?aP (fun _ hk => hk.elim) ?aF ?aO ?aB ?aS ?aL ?_; (case aP => exact rfl); (case aB => exact (by repeat (first | (with_reducible first | exact HB.out | apply below_alloc | apply pw_below_drewN | apply below_drew1 | refine below_set ?_ GE190.out) | exact HB.out))); (case aF => exact (fun _ _ => trivial)); (case aO => exact (by (with_reducible repeat (first | apply Kd.R_alloc | apply Kd.R_drewN | apply Kd.R_drew)); exact HO206.out)); (case aS => exact (below_size (by repeat (first | (with_reducible first | exact HB.out | apply below_alloc | apply pw_below_drewN | apply below_drew1 | refine below_set ?_ GE190.out) | exact HB.out)))); (case aL => have := LMc41.out; omega); intro v208 w45 ho hb hg hat; rw [← Ny207.out] at ho; have n0_ := Aside0.mk (blk_grown (g := gb190) (o := .cells #[.int .i64 a0_0, .int .i64 a0_1, .string a0_2, .slice A0_3 l0_3.length c0_3] 60 (0, 0)) (by (with_reducible repeat (first | refine blk_drewN ?_ _ | refine blk_drew ?_ | refine blk_alloc ?_ _)); exact BK190.out) hg (Kd.R_ne HO206.out BK190.out (by decide))); have n1_ := Aside0.mk (hb); have n2_ := Aside0.mk (ho); clear BK190; clear HB; clear HO206; have BK190 := n0_; have HB := n1_; have HO209 := n2_; clear n0_ n1_ n2_; clear ho hb hg hat))
                                                go_roundg kj25
                                                case measure => have := HJ6.out; have := HK2.out; have := HJ25.out; omega
                                                case rel => exact ⟨(y207), (wrap64 (x4_2 + 1)), (by first | rfl | (simp; done) | (simp [*]; done)), H', ⟨by have := HJ6.out; have := HK2.out; have := HJ25.out; omega⟩, ⟨by (with_reducible repeat (first | apply Kd.R_alloc | apply Kd.R_drewN | apply Kd.R_drew)); exact HO209.out⟩, ⟨by (with_reducible repeat (first | refine blk_drewN ?_ _ | refine blk_drew ?_ | refine blk_alloc ?_ _)); exact BK190.out⟩, ⟨by repeat (first | (with_reducible first | exact HB.out | apply below_alloc | apply pw_below_drewN | apply below_drew1 | refine below_set ?_ GE190.out) | exact HB.out)⟩⟩
                                              · rw [if_neg c41] at H
                                                exact absurd H (by simp)
                                            · rw [if_neg c39] at H
                                              exact absurd H (by simp)
                                          · rw [if_neg c38] at H
                                            exact absurd H (by simp)
                                        · rw [if_neg c36] at H
                                          exact absurd H (by simp)
                                      · rw [if_neg c34] at H
                                        exact absurd H (by simp)
                                    · rw [if_neg c33] at H
                                      exact absurd H (by simp)
                                  · rw [if_neg c31] at H
                                    exact absurd H (by simp)
                                · rw [if_neg c30] at H
                                  exact absurd H (by simp)
                              · replace c29 := Bool.eq_false_iff.mpr c29
                                subst c29
                                have H1 : (if (bt a0_2 x4_2) = 34 then (if x3_2.length < 140737488355328 then ((some (x3_2 ++ [92] : List Int)).bind fun y210 => (if y210.length < 140737488355328 then (switchyardref06_Print.l0 kj25 (y210 ++ [(bt a0_2 x4_2)]) (wrap64 (x4_2 + 1)) a0_0 a0_1 a0_2 l0_3) else (none))) else (none)) else (if (bt a0_2 x4_2) = 92 then (if x3_2.length < 140737488355328 then ((some (x3_2 ++ [92] : List Int)).bind fun y216 => (if y216.length < 140737488355328 then (switchyardref06_Print.l0 kj25 (y216 ++ [(bt a0_2 x4_2)]) (wrap64 (x4_2 + 1)) a0_0 a0_1 a0_2 l0_3) else (none))) else (none)) else (if x3_2.length < 140737488355328 then (switchyardref06_Print.l0 kj25 (x3_2 ++ [(bt a0_2 x4_2)]) (wrap64 (x4_2 + 1)) a0_0 a0_1 a0_2 l0_3) else (none)))) = some r := by rw [if_neg (show ¬ (false = true) by decide)] at H; exact H
                                clear H
                                have H := H1
                                clear H1
                                by_cases c46 : (bt a0_2 x4_2) = 34
                                · rw [if_pos c46] at H
                                  have c46b0 : ((bt a0_2 x4_2) == 34) = true := beq_iff_eq.mpr c46
                                  have c46b1 : ((bt a0_2 x4_2) != 34) = false := bne_eq_false_iff_eq.mpr c46
                                  clear c46
                                  by_cases c47 : x3_2.length < 140737488355328
                                  · rw [if_pos c47] at H
                                    have LMc47 := Aside0.mk c47
                                    clear c47
                                    obtain ⟨y210, hy210⟩ : ∃ y_ : List Int, y_ = (x3_2 ++ [92]) := ⟨_, rfl⟩
                                    replace H : (if y210.length < 140737488355328 then (switchyardref06_Print.l0 kj25 (y210 ++ [(bt a0_2 x4_2)]) (wrap64 (x4_2 + 1)) a0_0 a0_1 a0_2 l0_3) else (none)) = some r := by first | (rw [hy210]; with_reducible exact H) | (have H2_ := (Option.bind_some _ _).symm.trans H; rw [hy210]; with_reducible exact H2_) | (have H2_ := (Option.bind_some _ _).symm.trans H; with_reducible exact H2_) | with_reducible exact H | (rw [hy210]; exact H) | exact H
                                    have Ny210 := Aside0.mk hy210
                                    clear hy210
                                    by_cases c48 : y210.length < 140737488355328
                                    · rw [if_pos c48] at H
                                      have LMc48 := Aside0.mk c48
                                      clear c48
                                      obtain ⟨y213, hy213⟩ : ∃ y_ : List Int, y_ = (y210 ++ [(bt a0_2 x4_2)]) := ⟨_, rfl⟩
                                      replace H : (switchyardref06_Print.l0 kj25 y213 (wrap64 (x4_2 + 1)) a0_0 a0_1 a0_2 l0_3) = some r := by first | (rw [hy213]; with_reducible exact H) | (have H2_ := (Option.bind_some _ _).symm.trans H; rw [hy213]; with_reducible exact H2_) | (have H2_ := (Option.bind_some _ _).symm.trans H; with_reducible exact H2_) | with_reducible exact H | (rw [hy213]; exact H) | exact H
                                      have Ny213 := Aside0.mk hy213
                                      clear hy213
                                      have H' := Aside0.mk H
                                      clear H
                                      go_wp2_with (first | ((with_reducible refine gate_builtin (b := .append) (xs := #[.tmp 76, .tmp 77]) rfl ?_); at_builtin; refine Kd.R_append (Kd.int .u8) (w0 := w) w.heap.size rfl (.tmp 76) (.tmp 77) 62 5 (.int .u8 0) 1 rfl Tryd.underlying62 info5 rfl (by decide) (by omega) u3 x3_2 92 [.int .u8 92] (fun _ => True) (fun _ => False) rfl rfl ?aP (fun _ hk => hk.elim) ?aF ?aO ?aB ?aS ?aL ?_; (case aP => exact rfl); (case aB => exact (by repeat (first | (with_reducible first | exact HB.out | apply below_alloc | apply pw_below_drewN | apply below_drew1 | refine below_set ?_ GE190.out) | exact HB.out))); (case aF => exact (fun _ _ => trivial)); (case aO => exact (by (with_reducible repeat (first | apply Kd.R_alloc | apply Kd.R_drewN | apply Kd.R_drew)); exact HO_3.out)); (case aS => exact (below_size (by repeat (first | (with_reducible first | exact HB.out | apply below_alloc | apply pw_below_drewN | apply below_drew1 | refine below_set ?_ GE190.out) | exact HB.out)))); (case aL => have := LMc47.out; omega); intro v211 w49 ho hb hg hat; rw [← Ny210.out] at ho; have n0_ := Aside0.mk (blk_grown (g := gb190) (o := .cells #[.int .i64 a0_0, .int .i64 a0_1, .string a0_2, .slice A0_3 l0_3.length c0_3] 60 (0, 0)) (by (with_reducible repeat (first | refine blk_drewN ?_ _ | refine blk_drew ?_ | refine blk_alloc ?_ _)); exact BK190.out) hg (Kd.R_ne HO_3.out BK190.out (by decide))); have n1_ := Aside0.mk (hb); have n2_ := Aside0.mk (ho); clear BK190; clear HB; clear HO_3; have BK190 := n0_; have HB := n1_; have HO212 := n2_; clear n0_ n1_ n2_; clear ho hb hg hat) | ((with_reducible refine gate_builtin (b := .append) (xs := #[.tmp 79, .tmp 81]) rfl ?_); at_builtin; refine Kd.R_append (Kd.int .u8) (w0 := w) w.heap.size rfl (.tmp 79) (.tmp 81) 62 5 (.int .u8 0) 1 rfl Tryd.underlying62 info5 rfl (by decide) (by omega) v211 y210 (bt a0_2 x4_2) [.int .u8 (bt a0_2 x4_2)] (fun _ => True) (fun _ => False) rfl rfl ?aP (fun _ hk => hk.elim) ?aF ?aO ?aB ?aS ?aL ?_; (case aP => exact rfl); (case aB => exact (by repeat (first | (with_reducible first | exact HB.out | apply below_alloc | apply pw_below_drewN | apply below_drew1 | refine below_set ?_ GE190.out) | exact HB.out))); (case aF => exact (fun _ _ => trivial)); (case aO => exact (by (with_reducible repeat (first | apply Kd.R_alloc | apply Kd.R_drewN | apply Kd.R_drew)); exact HO212.out)); (case aS => exact (below_size (by repeat (first | (with_reducible first | exact HB.out | apply below_alloc | apply pw_below_drewN | apply below_drew1 | refine below_set ?_ GE190.out) | exact HB.out)))); (case aL => have := LMc48.out; omega); intro v214 w50 ho hb hg hat; rw [← Ny213.out] at ho; have n0_ := Aside0.mk (blk_grown (g := gb190) (o := .cells #[.int .i64 a0_0, .int .i64 a0_1, .string a0_2, .slice A0_3 l0_3.length c0_3] 60 (0, 0)) (by (with_reducible repeat (first | refine blk_drewN ?_ _ | refine blk_drew ?_ | refine blk_alloc ?_ _)); exact BK190.out) hg (Kd.R_ne HO212.out BK190.out (by decide))); have n1_ := Aside0.mk (hb); have n2_ := Aside0.mk (ho); clear BK190; clear HB; clear HO212; have BK190 := n0_; have HB := n1_; have HO215 := n2_; clear n0_ n1_ n2_; clear ho hb hg hat))
                                      go_roundg kj25
                                      case measure => have := HJ6.out; have := HK2.out; have := HJ25.out; omega
                                      case rel => exact ⟨(y213), (wrap64 (x4_2 + 1)), (by first | rfl | (simp; done) | (simp [*]; done)), H', ⟨by have := HJ6.out; have := HK2.out; have := HJ25.out; omega⟩, ⟨by (with_reducible repeat (first | apply Kd.R_alloc | apply Kd.R_drewN | apply Kd.R_drew)); exact HO215.out⟩, ⟨by (with_reducible repeat (first | refine blk_drewN ?_ _ | refine blk_drew ?_ | refine blk_alloc ?_ _)); exact BK190.out⟩, ⟨by repeat (first | (with_reducible first | exact HB.out | apply below_alloc | apply pw_below_drewN | apply below_drew1 | refine below_set ?_ GE190.out) | exact HB.out)⟩⟩
                                    · rw [if_neg c48] at H
                                      exact absurd H (by simp)
                                  · rw [if_neg c47] at H
                                    exact absurd H (by simp)
                                · rw [if_neg c46] at H
                                  have c46b0 : ((bt a0_2 x4_2) == 34) = false := beq_eq_false_iff_ne.mpr c46
                                  have c46b1 : ((bt a0_2 x4_2) != 34) = true := bne_iff_ne.mpr c46
                                  by_cases c51 : (bt a0_2 x4_2) = 92
                                  · rw [if_pos c51] at H
                                    have c51b0 : ((bt a0_2 x4_2) == 92) = true := beq_iff_eq.mpr c51
                                    have c51b1 : ((bt a0_2 x4_2) != 92) = false := bne_eq_false_iff_eq.mpr c51
                                    clear c51
                                    by_cases c52 : x3_2.length < 140737488355328
                                    · rw [if_pos c52] at H
                                      have LMc52 := Aside0.mk c52
                                      clear c52
                                      obtain ⟨y216, hy216⟩ : ∃ y_ : List Int, y_ = (x3_2 ++ [92]) := ⟨_, rfl⟩
                                      replace H : (if y216.length < 140737488355328 then (switchyardref06_Print.l0 kj25 (y216 ++ [(bt a0_2 x4_2)]) (wrap64 (x4_2 + 1)) a0_0 a0_1 a0_2 l0_3) else (none)) = some r := by first | (rw [hy216]; with_reducible exact H) | (have H2_ := (Option.bind_some _ _).symm.trans H; rw [hy216]; with_reducible exact H2_) | (have H2_ := (Option.bind_some _ _).symm.trans H; with_reducible exact H2_) | with_reducible exact H | (rw [hy216]; exact H) | exact H
                                      have Ny216 := Aside0.mk hy216
                                      clear hy216
                                      by_cases c53 : y216.length < 140737488355328
                                      · rw [if_pos c53] at H
                                        have LMc53 := Aside0.mk c53
                                        clear c53
                                        obtain ⟨y219, hy219⟩ : ∃ y_ : List Int, y_ = (y216 ++ [(bt a0_2 x4_2)]) := ⟨_, rfl⟩
                                        replace H : (switchyardref06_Print.l0 kj25 y219 (wrap64 (x4_2 + 1)) a0_0 a0_1 a0_2 l0_3) = some r := by first | (rw [hy219]; with_reducible exact H) | (have H2_ := (Option.bind_some _ _).symm.trans H; rw [hy219]; with_reducible exact H2_) | (have H2_ := (Option.bind_some _ _).symm.trans H; with_reducible exact H2_) | with_reducible exact H | (rw [hy219]; exact H) | exact H
                                        have Ny219 := Aside0.mk hy219
                                        clear hy219
                                        have H' := Aside0.mk H
                                        clear H
                                        go_wp2_with (first | ((with_reducible refine gate_builtin (b := .append) (xs := #[.tmp 76, .tmp 77]) rfl ?_); at_builtin; refine Kd.R_append (Kd.int .u8) (w0 := w) w.heap.size rfl (.tmp 76) (.tmp 77) 62 5 (.int .u8 0) 1 rfl Tryd.underlying62 info5 rfl (by decide) (by omega) u3 x3_2 92 [.int .u8 92] (fun _ => True) (fun _ => False) rfl rfl ?aP (fun _ hk => hk.elim) ?aF ?aO ?aB ?aS ?aL ?_; (case aP => exact rfl); (case aB => exact (by repeat (first | (with_reducible first | exact HB.out | apply below_alloc | apply pw_below_drewN | apply below_drew1 | refine below_set ?_ GE190.out) | exact HB.out))); (case aF => exact (fun _ _ => trivial)); (case aO => exact (by (with_reducible repeat (first | apply Kd.R_alloc | apply Kd.R_drewN | apply Kd.R_drew)); exact HO_3.out)); (case aS => exact (below_size (by repeat (first | (with_reducible first | exact HB.out | apply below_alloc | apply pw_below_drewN | apply below_drew1 | refine below_set ?_ GE190.out) | exact HB.out)))); (case aL => have := LMc52.out; omega); intro v217 w54 ho hb hg hat; rw [← Ny216.out] at ho; have n0_ := Aside0.mk (blk_grown (g := gb190) (o := .cells #[.int .i64 a0_0, .int .i64 a0_1, .string a0_2, .slice A0_3 l0_3.length c0_3] 60 (0, 0)) (by (with_reducible repeat (first | refine blk_drewN ?_ _ | refine blk_drew ?_ | refine blk_alloc ?_ _)); exact BK190.out) hg (Kd.R_ne HO_3.out BK190.out (by decide))); have n1_ := Aside0.mk (hb); have n2_ := Aside0.mk (ho); clear BK190; clear HB; clear HO_3; have BK190 := n0_; have HB := n1_; have HO218 := n2_; clear n0_ n1_ n2_; clear ho hb hg hat) | ((with_reducible refine gate_builtin (b := .append) (xs := #[.tmp 79, .tmp 81]) rfl ?_); at_builtin; refine Kd.R_append (Kd.int .u8) (w0 := w) w.heap.size rfl (.tmp 79) (.tmp 81) 62 5 (.int .u8 0) 1 rfl Tryd.underlying62 info5 rfl (by decide) (by omega) v217 y216 (bt a0_2 x4_2) [.int .u8 (bt a0_2 x4_2)] (fun _ => True) (fun _ => False) rfl rfl ?aP (fun _ hk => hk.elim) ?aF ?aO ?aB ?aS ?aL ?_; (case aP => exact rfl); (case aB => exact (by repeat (first | (with_reducible first | exact HB.out | apply below_alloc | apply pw_below_drewN | apply below_drew1 | refine below_set ?_ GE190.out) | exact HB.out))); (case aF => exact (fun _ _ => trivial)); (case aO => exact (by (with_reducible repeat (first | apply Kd.R_alloc | apply Kd.R_drewN | apply Kd.R_drew)); exact HO218.out)); (case aS => exact (below_size (by repeat (first | (with_reducible first | exact HB.out | apply below_alloc | apply pw_below_drewN | apply below_drew1 | refine below_set ?_ GE190.out) | exact HB.out)))); (case aL => have := LMc53.out; omega); intro v220 w55 ho hb hg hat; rw [← Ny219.out] at ho; have n0_ := Aside0.mk (blk_grown (g := gb190) (o := .cells #[.int .i64 a0_0, .int .i64 a0_1, .string a0_2, .slice A0_3 l0_3.length c0_3] 60 (0, 0)) (by (with_reducible repeat (first | refine blk_drewN ?_ _ | refine blk_drew ?_ | refine blk_alloc ?_ _)); exact BK190.out) hg (Kd.R_ne HO218.out BK190.out (by decide))); have n1_ := Aside0.mk (hb); have n2_ := Aside0.mk (ho); clear BK190; clear HB; clear HO218; have BK190 := n0_; have HB := n1_; have HO221 := n2_; clear n0_ n1_ n2_; clear ho hb hg hat))
                                        go_roundg kj25
                                        case measure => have := HJ6.out; have := HK2.out; have := HJ25.out; omega
                                        case rel => exact ⟨(y219), (wrap64 (x4_2 + 1)), (by first | rfl | (simp; done) | (simp [*]; done)), H', ⟨by have := HJ6.out; have := HK2.out; have := HJ25.out; omega⟩, ⟨by (with_reducible repeat (first | apply Kd.R_alloc | apply Kd.R_drewN | apply Kd.R_drew)); exact HO221.out⟩, ⟨by (with_reducible repeat (first | refine blk_drewN ?_ _ | refine blk_drew ?_ | refine blk_alloc ?_ _)); exact BK190.out⟩, ⟨by repeat (first | (with_reducible first | exact HB.out | apply below_alloc | apply pw_below_drewN | apply below_drew1 | refine below_set ?_ GE190.out) | exact HB.out)⟩⟩
                                      · rw [if_neg c53] at H
                                        exact absurd H (by simp)
                                    · rw [if_neg c52] at H
                                      exact absurd H (by simp)
                                  · rw [if_neg c51] at H
                                    have c51b0 : ((bt a0_2 x4_2) == 92) = false := beq_eq_false_iff_ne.mpr c51
                                    have c51b1 : ((bt a0_2 x4_2) != 92) = true := bne_iff_ne.mpr c51
                                    by_cases c56 : x3_2.length < 140737488355328
                                    · rw [if_pos c56] at H
                                      have LMc56 := Aside0.mk c56
                                      clear c56
                                      obtain ⟨y222, hy222⟩ : ∃ y_ : List Int, y_ = (x3_2 ++ [(bt a0_2 x4_2)]) := ⟨_, rfl⟩
                                      replace H : (switchyardref06_Print.l0 kj25 y222 (wrap64 (x4_2 + 1)) a0_0 a0_1 a0_2 l0_3) = some r := by first | (rw [hy222]; with_reducible exact H) | (have H2_ := (Option.bind_some _ _).symm.trans H; rw [hy222]; with_reducible exact H2_) | (have H2_ := (Option.bind_some _ _).symm.trans H; with_reducible exact H2_) | with_reducible exact H | (rw [hy222]; exact H) | exact H
                                      have Ny222 := Aside0.mk hy222
                                      clear hy222
                                      have H' := Aside0.mk H
                                      clear H
                                      go_wp2_with (first | ((with_reducible refine gate_builtin (b := .append) (xs := #[.tmp 79, .tmp 81]) rfl ?_); at_builtin; refine Kd.R_append (Kd.int .u8) (w0 := w) w.heap.size rfl (.tmp 79) (.tmp 81) 62 5 (.int .u8 0) 1 rfl Tryd.underlying62 info5 rfl (by decide) (by omega) u3 x3_2 (bt a0_2 x4_2) [.int .u8 (bt a0_2 x4_2)] (fun _ => True) (fun _ => False) rfl rfl ?aP (fun _ hk => hk.elim) ?aF ?aO ?aB ?aS ?aL ?_; (case aP => exact rfl); (case aB => exact (by repeat (first | (with_reducible first | exact HB.out | apply below_alloc | apply pw_below_drewN | apply below_drew1 | refine below_set ?_ GE190.out) | exact HB.out))); (case aF => exact (fun _ _ => trivial)); (case aO => exact (by (with_reducible repeat (first | apply Kd.R_alloc | apply Kd.R_drewN | apply Kd.R_drew)); exact HO_3.out)); (case aS => exact (below_size (by repeat (first | (with_reducible first | exact HB.out | apply below_alloc | apply pw_below_drewN | apply below_drew1 | refine below_set ?_ GE190.out) | exact HB.out)))); (case aL => have := LMc56.out; omega); intro v223 w57 ho hb hg hat; rw [← Ny222.out] at ho; have n0_ := Aside0.mk (blk_grown (g := gb190) (o := .cells #[.int .i64 a0_0, .int .i64 a0_1, .string a0_2, .slice A0_3 l0_3.length c0_3] 60 (0, 0)) (by (with_reducible repeat (first | refine blk_drewN ?_ _ | refine blk_drew ?_ | refine blk_alloc ?_ _)); exact BK190.out) hg (Kd.R_ne HO_3.out BK190.out (by decide))); have n1_ := Aside0.mk (hb); have n2_ := Aside0.mk (ho); clear BK190; clear HB; clear HO_3; have BK190 := n0_; have HB := n1_; have HO224 := n2_; clear n0_ n1_ n2_; clear ho hb hg hat))
                                      go_roundg kj25
                                      case measure => have := HJ6.out; have := HK2.out; have := HJ25.out; omega
                                      case rel => exact ⟨(y222), (wrap64 (x4_2 + 1)), (by first | rfl | (simp; done) | (simp [*]; done)), H', ⟨by have := HJ6.out; have := HK2.out; have := HJ25.out; omega⟩, ⟨by (with_reducible repeat (first | apply Kd.R_alloc | apply Kd.R_drewN | apply Kd.R_drew)); exact HO224.out⟩, ⟨by (with_reducible repeat (first | refine blk_drewN ?_ _ | refine blk_drew ?_ | refine blk_alloc ?_ _)); exact BK190.out⟩, ⟨by repeat (first | (with_reducible first | exact HB.out | apply below_alloc | apply pw_below_drewN | apply below_drew1 | refine below_set ?_ GE190.out) | exact HB.out)⟩⟩
                                    · rw [if_neg c56] at H
                                      exact absurd H (by simp)
                        · rw [if_neg c24] at H
                          exact absurd H (by simp)
                      · rw [if_neg c23] at H
                        have c23b0 : decide (x4_2 < (a0_2.size : Int)) = false := decide_eq_false c23
                        clear c23
                        by_cases c58 : x3_2.length < 140737488355328
                        · rw [if_pos c58] at H
                          have LMc58 := Aside0.mk c58
                          clear c58
                          obtain ⟨y195, hy195⟩ : ∃ y_ : List Int, y_ = (x3_2 ++ [34]) := ⟨_, rfl⟩
                          replace H : (some (strOfNums y195)) = some r := by first | (rw [hy195]; with_reducible exact H) | (have H2_ := (Option.bind_some _ _).symm.trans H; rw [hy195]; with_reducible exact H2_) | (have H2_ := (Option.bind_some _ _).symm.trans H; with_reducible exact H2_) | with_reducible exact H | (rw [hy195]; exact H) | exact H
                          have Ny195 := Aside0.mk hy195
                          clear hy195
                          obtain rfl := Option.some.inj H
                          have hcz59_0 : wr.cell? ⟨gb190, 0, none⟩ = some (.int .i64 a0_0) := (blk_cell BK190.out 0).trans rfl
                          have hcz59_1 : wr.cell? ⟨gb190, 1, none⟩ = some (.int .i64 a0_1) := (blk_cell BK190.out 1).trans rfl
                          have hcz59_2 : wr.cell? ⟨gb190, 2, none⟩ = some (.string a0_2) := (blk_cell BK190.out 2).trans rfl
                          have hcz59_3 : wr.cell? ⟨gb190, 3, none⟩ = some (.slice A0_3 l0_3.length c0_3) := (blk_cell BK190.out 3).trans rfl
                          have hfz59_0 := blk_frozen BK190.out 0
                          have hfz59_1 := blk_frozen BK190.out 1
                          have hfz59_2 := blk_frozen BK190.out 2
                          have hfz59_3 := blk_frozen BK190.out 3
                          go_wp2_with (first | ((with_reducible refine gate_builtin (b := .append) (xs := #[.tmp 83, .tmp 84]) rfl ?_); at_builtin; refine Kd.R_append (Kd.int .u8) (w0 := w) w.heap.size rfl (.tmp 83) (.tmp 84) 62 5 (.int .u8 0) 1 rfl Tryd.underlying62 info5 rfl (by decide) (by omega) u3 x3_2 34 [.int .u8 34] (fun _ => True) (fun _ => False) rfl rfl ?aP (fun _ hk => hk.elim) ?aF ?aO ?aB ?aS ?aL ?_; (case aP => exact rfl); (case aB => exact (by repeat (first | (with_reducible first | exact HB.out | apply below_alloc | apply pw_below_drewN | apply below_drew1 | refine below_set ?_ GE190.out) | exact HB.out))); (case aF => exact (fun _ _ => trivial)); (case aO => exact (by (with_reducible repeat (first | apply Kd.R_alloc | apply Kd.R_drewN | apply Kd.R_drew)); exact HO_3.out)); (case aS => exact (below_size (by repeat (first | (with_reducible first | exact HB.out | apply below_alloc | apply pw_below_drewN | apply below_drew1 | refine below_set ?_ GE190.out) | exact HB.out)))); (case aL => have := LMc58.out; omega); intro v196 w60 ho hb hg hat; rw [← Ny195.out] at ho; have n0_ := Aside0.mk (blk_grown (g := gb190) (o := .cells #[.int .i64 a0_0, .int .i64 a0_1, .string a0_2, .slice A0_3 l0_3.length c0_3] 60 (0, 0)) (by (with_reducible repeat (first | refine blk_drewN ?_ _ | refine blk_drew ?_ | refine blk_alloc ?_ _)); exact BK190.out) hg (Kd.R_ne HO_3.out BK190.out (by decide))); have n1_ := Aside0.mk (hb); have n2_ := Aside0.mk (ho); clear BK190; clear HB; clear HO_3; have BK190 := n0_; have HB := n1_; have HO197 := n2_; clear n0_ n1_ n2_; clear ho hb hg hat; have hcv61 := own_string (P := Tryd.prog) Tryd.underlying62 Tryd.underlying5 Tryd.underlying9 (Kd.own_of_R HO197.out)))
                          go_ret
                          exact ⟨by first | rfl | (simp [errW_none, errW_some] <;> rfl) | (simp [*, errW_none, errW_some] <;> rfl), by repeat (first | (with_reducible first | exact HB.out | apply below_alloc | apply pw_below_drewN | apply below_drew1 | refine below_set ?_ GE190.out) | exact HB.out)⟩
                        · rw [if_neg c58] at H
                          exact absurd H (by simp)
                · rw [if_neg c20] at H
                  exact absurd H (by simp)
              · rw [if_neg c19] at H
                have c19b0 : (a0_0 == 3) = false := beq_eq_false_iff_ne.mpr c19
                have c19b1 : (a0_0 != 3) = true := bne_iff_ne.mpr c19
                by_cases c62 : a0_0 = 5
                · rw [if_pos c62] at H
                  have c62b0 : (a0_0 == 5) = true := beq_iff_eq.mpr c62
                  have c62b1 : (a0_0 != 5) = false := bne_eq_false_iff_eq.mpr c62
                  clear c62
                  have H' := Aside0.mk H
                  clear H
                  have hcz63_0 : wc.cell? ⟨gb190, 0, none⟩ = some (.int .i64 a0_0) := (blk_cell BK190.out 0).trans rfl
                  have hcz63_1 : wc.cell? ⟨gb190, 1, none⟩ = some (.int .i64 a0_1) := (blk_cell BK190.out 1).trans rfl
                  have hcz63_2 : wc.cell? ⟨gb190, 2, none⟩ = some (.string a0_2) := (blk_cell BK190.out 2).trans rfl
                  have hcz63_3 : wc.cell? ⟨gb190, 3, none⟩ = some (.slice A0_3 l0_3.length c0_3) := (blk_cell BK190.out 3).trans rfl
                  have hfz63_0 := blk_frozen BK190.out 0
                  have hfz63_1 := blk_frozen BK190.out 1
                  have hfz63_2 := blk_frozen BK190.out 2
                  have hfz63_3 := blk_frozen BK190.out 3
                  go_wp2
                  go_loopg [6, 93] kj6 (fun kq v6 v93 w' => ∃ (x6_2 : ByteArray) (x93_2 : Int), v6 = .string x6_2 ∧ v93 = .int .i64 x93_2 ∧ Aside0 (switchyardref06_Print.l1 kq x6_2 l0_3 (l0_3.length : Int) x93_2 = some r) ∧ Aside0 (kq ≤ kj6) ∧ Aside0 (w'.heap[gb190]? = some (.cells #[.int .i64 a0_0, .int .i64 a0_1, .string a0_2, (.slice A0_3 l0_3.length c0_3)] 60 (0, 0))) ∧ Aside0 (Below w.heap.size w w'))
                  case atStart => exact ⟨((⟨#[91]⟩ : ByteArray)), (0), (by first | rfl | (simp; done) | (simp [*]; done)), (by first | rfl | (simp; done) | (simp [*]; done)), H', ⟨Nat.le_refl _⟩, ⟨by (with_reducible repeat (first | refine blk_drewN ?_ _ | refine blk_drew ?_ | refine blk_alloc ?_ _)); exact BK190.out⟩, ⟨by repeat (first | (with_reducible first | exact HB.out | apply below_alloc | apply pw_below_drewN | apply below_drew1 | refine below_set ?_ GE190.out) | exact HB.out)⟩⟩
                  case round =>
                    clear H'
                    try clear c1
                    try clear c2
                    try clear c2b0
                    try clear c2b1
                    try clear p2
                    try clear q2
                    try clear hx2
                    try clear c3
                    try clear p3
                    try clear q3
                    try clear hx3
                    try clear c4
                    try clear p4
                    try clear q4
                    try clear hx4
                    try clear c5
                    try clear c6
                    try clear p6
                    try clear hcv6
                    try clear c10
                    try clear c10b0
                    try clear c10b1
                    try clear c13
                    try clear c14
                    try clear c14b0
                    try clear c14b1
                    try clear c16
                    try clear c16b0
                    try clear c16b1
                    try clear c17
                    try clear c17b0
                    try clear c17b1
                    try clear c17b2
                    try clear c19
                    try clear c19b0
                    try clear c19b1
                    try clear c20
                    try clear c23
                    try clear c23b0
                    try clear c24
                    try clear c24b0
                    try clear p25
                    try clear q25
                    try clear hx25
                    try clear c28
                    try clear c28b0
                    try clear c29
                    try clear c30
                    try clear c31
                    try clear c33
                    try clear c33b0
                    try clear c34
                    try clear c34b0
                    try clear p35
                    try clear q35
                    try clear hx35
                    try clear c36
                    try clear c38
                    try clear c38b0
                    try clear c39
                    try clear c39b0
                    try clear p40
                    try clear q40
                    try clear hx40
                    try clear c41
                    try clear c46
                    try clear c46b0
                    try clear c46b1
                    try clear c47
                    try clear c48
                    try clear c51
                    try clear c51b0
                    try clear c51b1
                    try clear c52
                    try clear c53
                    try clear c56
                    try clear c58
                    try clear hcv61
                    try clear c62
                    try clear c62b0
                    try clear c62b1
                    try clear hcz11_0
                    try clear hcz11_1
                    try clear hcz11_2
                    try clear hcz11_3
                    try clear hcz12_0
                    try clear hcz12_1
                    try clear hcz12_2
                    try clear hcz12_3
                    try clear hcz15_0
                    try clear hcz15_1
                    try clear hcz15_2
                    try clear hcz15_3
                    try clear hcz18_0
                    try clear hcz18_1
                    try clear hcz18_2
                    try clear hcz18_3
                    try clear hcz21_0
                    try clear hcz21_1
                    try clear hcz21_2
                    try clear hcz21_3
                    try clear hcz27_0
                    try clear hcz27_1
                    try clear hcz27_2
                    try clear hcz27_3
                    try clear hcz59_0
                    try clear hcz59_1
                    try clear hcz59_2
                    try clear hcz59_3
                    try clear hcz5_0
                    try clear hcz5_1
                    try clear hcz5_2
                    try clear hcz5_3
                    try clear hcz63_0
                    try clear hcz63_1
                    try clear hcz63_2
                    try clear hcz63_3
                    try clear hcz9_0
                    try clear hcz9_1
                    try clear hcz9_2
                    try clear hcz9_3
                    try clear hfz11_0
                    try clear hfz11_1
                    try clear hfz11_2
                    try clear hfz11_3
                    try clear hfz12_0
                    try clear hfz12_1
                    try clear hfz12_2
                    try clear hfz12_3
                    try clear hfz15_0
                    try clear hfz15_1
                    try clear hfz15_2
                    try clear hfz15_3
                    try clear hfz18_0
                    try clear hfz18_1
                    try clear hfz18_2
                    try clear hfz18_3
                    try clear hfz21_0
                    try clear hfz21_1
                    try clear hfz21_2
                    try clear hfz21_3
                    try clear hfz27_0
                    try clear hfz27_1
                    try clear hfz27_2
                    try clear hfz27_3
                    try clear hfz59_0
                    try clear hfz59_1
                    try clear hfz59_2
                    try clear hfz59_3
                    try clear hfz5_0
                    try clear hfz5_1
                    try clear hfz5_2
                    try clear hfz5_3
                    try clear hfz63_0
                    try clear hfz63_1
                    try clear hfz63_2
                    try clear hfz63_3
                    try clear hfz9_0
                    try clear hfz9_1
                    try clear hfz9_2
                    try clear hfz9_3
                    try clear p2
                    try clear p25
                    try clear p35
                    try clear p40
                    try clear q2
                    try clear q25
                    try clear q35
                    try clear q40
                    obtain ⟨x6_2, x93_2, rfl, rfl, HA, HK2, BK190, HB⟩ := hrel
                    cases gk with
                    | zero => exact absurd HA.out (by simp [switchyardref06_Print.l1])
                    | succ k2 =>
                      have H := HA.out
                      clear HA
                      simp only [switchyardref06_Print.l1] at H
                      by_cases c64 : x93_2 < (l0_3.length : Int)
                      · rw [if_pos c64] at H
                        have c64b0 : decide (x93_2 < (l0_3.length : Int)) = true := decide_eq_true c64
                        clear c64
                        by_cases c65 : 0 ≤ x93_2
                        · rw [if_pos c65] at H
                          have c65b0 : decide (0 ≤ x93_2) = true := decide_eq_true c65
                          clear c65
                          by_cases c66 : x93_2 < (l0_3.length : Int)
                          · rw [if_pos c66] at H
                            have c66b0 : decide (x93_2 < (l0_3.length : Int)) = true := decide_eq_true c66
                            clear c66
                            by_cases c67 : x93_2 > 0
                            · rw [if_pos c67] at H
                              have c67b0 : decide (0 < x93_2) = true := decide_eq_true c67
                              clear c67
                              by_cases c68 : x6_2.size + 2 ≤ 9223372036854775807
                              · rw [if_pos c68] at H
                                have c68b0 := eq_true c68
                                have c68b1 : decide (x6_2.size + 2 ≤ 9223372036854775807) = true := decide_eq_true c68
                                try have c68b2 : (9223372036854775807 < x6_2.size + 2) = False := eq_false (Nat.not_lt.2 c68)
                                try (have c68s := c68; simp only [ByteArray.size_append, bsize_mk, List.size_toArray, List.length_cons, List.length_nil, Nat.reduceAdd, Nat.zero_add] at c68s)
                                try have c68s2 := eq_false (Nat.not_lt.2 c68s)
                                replace H := Option.bind_eq_some_iff.mp H
                                obtain ⟨t226, A690, H⟩ := H
                                replace H : (if (x6_2 ++ (⟨#[44, 32]⟩ : ByteArray)).size + t226.size ≤ 9223372036854775807 then (switchyardref06_Print.l1 k2 ((x6_2 ++ (⟨#[44, 32]⟩ : ByteArray)) ++ t226) l0_3 (l0_3.length : Int) (wrap64 (x93_2 + 1))) else (none)) = some r := H
                                have A69 := Aside0.mk A690
                                clear A690
                                by_cases c70 : (x6_2 ++ (⟨#[44, 32]⟩ : ByteArray)).size + t226.size ≤ 9223372036854775807
                                · rw [if_pos c70] at H
                                  have c70b0 := eq_true c70
                                  have c70b1 : decide ((x6_2 ++ (⟨#[44, 32]⟩ : ByteArray)).size + t226.size ≤ 9223372036854775807) = true := decide_eq_true c70
                                  try have c70b2 : (9223372036854775807 < (x6_2 ++ (⟨#[44, 32]⟩ : ByteArray)).size + t226.size) = False := eq_false (Nat.not_lt.2 c70)
                                  try (have c70s := c70; simp only [ByteArray.size_append, bsize_mk, List.size_toArray, List.length_cons, List.length_nil, Nat.reduceAdd, Nat.zero_add] at c70s)
                                  try have c70s2 := eq_false (Nat.not_lt.2 c70s)
                                  have H' := Aside0.mk H
                                  clear H
                                  have p225 : 0 ≤ (x93_2 : Int) := of_decide_eq_true (by first | (with_reducible assumption) | assumption)
                                  have q225 : x93_2 < (l0_3.length : Int) := of_decide_eq_true (by first | (with_reducible assumption) | assumption)
                                  obtain ⟨ad225, e225, hx225_0⟩ := Kd.at_int HR0_3.out x93_2 p225 q225
                                  cases e225
                                  replace hx225_0 := (HB.out.cell (World.block_lt_of_cell? w _ hx225_0)).trans hx225_0
                                  replace p225 := eq_true p225
                                  replace q225 := eq_true q225
                                  go_wp2_with (first | ((with_reducible refine gate_callee (f := 54) rfl ?_); refine goesL_ (some 104) rfl rfl Tryd.func54 (by kernel_rfl) rfl #[.int .i64 (rd l0_3 x93_2)] rfl (by (try simp only [List.map_toArray, List.map_cons, List.map_nil]); first | done | rfl | (simp only [List.length_drop, List.length_take]; rfl)) ?_; (with_reducible refine (switchyardref06_Decimal.calls (rd l0_3 x93_2) t226 _ A69.out).mono ?_); rintro e w71 ⟨rfl, hb⟩; refine ⟨_, rfl, ?_⟩; have n0_ := Aside0.mk (blk_below (g := gb190) (o := .cells #[.int .i64 a0_0, .int .i64 a0_1, .string a0_2, .slice (some ad225) l0_3.length c0_3] 60 (0, 0)) (by (with_reducible repeat (first | refine blk_drewN ?_ _ | refine blk_drew ?_ | refine blk_alloc ?_ _)); exact BK190.out) hb); have n1_ := Aside0.mk (below_step (by repeat (first | (with_reducible first | exact HB.out | apply below_alloc | apply pw_below_drewN | apply below_drew1 | refine below_set ?_ GE190.out) | exact HB.out)) hb); clear BK190; clear HB; have BK190 := n0_; have HB := n1_; clear n0_ n1_; (try clear hb); (try clear hb2); (try clear hk); (try clear hi)))
                                  go_roundg k2
                                  case measure => have := HJ6.out; have := HK2.out; omega
                                  case rel => exact ⟨((x6_2 ++ (⟨#[44, 32]⟩ : ByteArray)) ++ t226), (wrap64 (x93_2 + 1)), (by first | rfl | (simp; done) | (simp [*]; done)), (by first | rfl | (simp; done) | (simp [*]; done)), H', ⟨by have := HJ6.out; have := HK2.out; omega⟩, ⟨by (with_reducible repeat (first | refine blk_drewN ?_ _ | refine blk_drew ?_ | refine blk_alloc ?_ _)); exact BK190.out⟩, ⟨by repeat (first | (with_reducible first | exact HB.out | apply below_alloc | apply pw_below_drewN | apply below_drew1 | refine below_set ?_ GE190.out) | exact HB.out)⟩⟩
                                · rw [if_neg c70] at H
                                  exact absurd H (by simp)
                              · rw [if_neg c68] at H
                                exact absurd H (by simp)
                            · rw [if_neg c67] at H
                              have c67b0 : decide (0 < x93_2) = false := decide_eq_false c67
                              clear c67
                              replace H := Option.bind_eq_some_iff.mp H
                              obtain ⟨t227, A720, H⟩ := H
                              replace H : (if x6_2.size + t227.size ≤ 9223372036854775807 then (switchyardref06_Print.l1 k2 (x6_2 ++ t227) l0_3 (l0_3.length : Int) (wrap64 (x93_2 + 1))) else (none)) = some r := H
                              have A72 := Aside0.mk A720
                              clear A720
                              by_cases c73 : x6_2.size + t227.size ≤ 9223372036854775807
                              · rw [if_pos c73] at H
                                have c73b0 := eq_true c73
                                have c73b1 : decide (x6_2.size + t227.size ≤ 9223372036854775807) = true := decide_eq_true c73
                                try have c73b2 : (9223372036854775807 < x6_2.size + t227.size) = False := eq_false (Nat.not_lt.2 c73)
                                try (have c73s := c73; simp only [ByteArray.size_append, bsize_mk, List.size_toArray, List.length_cons, List.length_nil, Nat.reduceAdd, Nat.zero_add] at c73s)
                                try have c73s2 := eq_false (Nat.not_lt.2 c73s)
                                have H' := Aside0.mk H
                                clear H
                                have p225 : 0 ≤ (x93_2 : Int) := of_decide_eq_true (by first | (with_reducible assumption) | assumption)
                                have q225 : x93_2 < (l0_3.length : Int) := of_decide_eq_true (by first | (with_reducible assumption) | assumption)
                                obtain ⟨ad225, e225, hx225_0⟩ := Kd.at_int HR0_3.out x93_2 p225 q225
                                cases e225
                                replace hx225_0 := (HB.out.cell (World.block_lt_of_cell? w _ hx225_0)).trans hx225_0
                                replace p225 := eq_true p225
                                replace q225 := eq_true q225
                                go_wp2_with (first | ((with_reducible refine gate_callee (f := 54) rfl ?_); refine goesL_ (some 104) rfl rfl Tryd.func54 (by kernel_rfl) rfl #[.int .i64 (rd l0_3 x93_2)] rfl (by (try simp only [List.map_toArray, List.map_cons, List.map_nil]); first | done | rfl | (simp only [List.length_drop, List.length_take]; rfl)) ?_; (with_reducible refine (switchyardref06_Decimal.calls (rd l0_3 x93_2) t227 _ A72.out).mono ?_); rintro e w74 ⟨rfl, hb⟩; refine ⟨_, rfl, ?_⟩; have n0_ := Aside0.mk (blk_below (g := gb190) (o := .cells #[.int .i64 a0_0, .int .i64 a0_1, .string a0_2, .slice (some ad225) l0_3.length c0_3] 60 (0, 0)) (by (with_reducible repeat (first | refine blk_drewN ?_ _ | refine blk_drew ?_ | refine blk_alloc ?_ _)); exact BK190.out) hb); have n1_ := Aside0.mk (below_step (by repeat (first | (with_reducible first | exact HB.out | apply below_alloc | apply pw_below_drewN | apply below_drew1 | refine below_set ?_ GE190.out) | exact HB.out)) hb); clear BK190; clear HB; have BK190 := n0_; have HB := n1_; clear n0_ n1_; (try clear hb); (try clear hb2); (try clear hk); (try clear hi)))
                                go_roundg k2
                                case measure => have := HJ6.out; have := HK2.out; omega
                                case rel => exact ⟨(x6_2 ++ t227), (wrap64 (x93_2 + 1)), (by first | rfl | (simp; done) | (simp [*]; done)), (by first | rfl | (simp; done) | (simp [*]; done)), H', ⟨by have := HJ6.out; have := HK2.out; omega⟩, ⟨by (with_reducible repeat (first | refine blk_drewN ?_ _ | refine blk_drew ?_ | refine blk_alloc ?_ _)); exact BK190.out⟩, ⟨by repeat (first | (with_reducible first | exact HB.out | apply below_alloc | apply pw_below_drewN | apply below_drew1 | refine below_set ?_ GE190.out) | exact HB.out)⟩⟩
                              · rw [if_neg c73] at H
                                exact absurd H (by simp)
                          · rw [if_neg c66] at H
                            exact absurd H (by simp)
                        · rw [if_neg c65] at H
                          exact absurd H (by simp)
                      · rw [if_neg c64] at H
                        have c64b0 : decide (x93_2 < (l0_3.length : Int)) = false := decide_eq_false c64
                        clear c64
                        by_cases c75 : x6_2.size + 1 ≤ 9223372036854775807
                        · rw [if_pos c75] at H
                          have c75b0 := eq_true c75
                          have c75b1 : decide (x6_2.size + 1 ≤ 9223372036854775807) = true := decide_eq_true c75
                          try have c75b2 : (9223372036854775807 < x6_2.size + 1) = False := eq_false (Nat.not_lt.2 c75)
                          try (have c75s := c75; simp only [ByteArray.size_append, bsize_mk, List.size_toArray, List.length_cons, List.length_nil, Nat.reduceAdd, Nat.zero_add] at c75s)
                          try have c75s2 := eq_false (Nat.not_lt.2 c75s)
                          obtain rfl := Option.some.inj H
                          go_wp2
                          go_ret
                          exact ⟨by first | rfl | (simp [errW_none, errW_some] <;> rfl) | (simp [*, errW_none, errW_some] <;> rfl), by repeat (first | (with_reducible first | exact HB.out | apply below_alloc | apply pw_below_drewN | apply below_drew1 | refine below_set ?_ GE190.out) | exact HB.out)⟩
                        · rw [if_neg c75] at H
                          exact absurd H (by simp)
                · rw [if_neg c62] at H
                  have c62b0 : (a0_0 == 5) = false := beq_eq_false_iff_ne.mpr c62
                  have c62b1 : (a0_0 != 5) = true := bne_iff_ne.mpr c62
                  obtain rfl := Option.some.inj H
                  have hcz76_0 : wc.cell? ⟨gb190, 0, none⟩ = some (.int .i64 a0_0) := (blk_cell BK190.out 0).trans rfl
                  have hcz76_1 : wc.cell? ⟨gb190, 1, none⟩ = some (.int .i64 a0_1) := (blk_cell BK190.out 1).trans rfl
                  have hcz76_2 : wc.cell? ⟨gb190, 2, none⟩ = some (.string a0_2) := (blk_cell BK190.out 2).trans rfl
                  have hcz76_3 : wc.cell? ⟨gb190, 3, none⟩ = some (.slice A0_3 l0_3.length c0_3) := (blk_cell BK190.out 3).trans rfl
                  have hfz76_0 := blk_frozen BK190.out 0
                  have hfz76_1 := blk_frozen BK190.out 1
                  have hfz76_2 := blk_frozen BK190.out 2
                  have hfz76_3 := blk_frozen BK190.out 3
                  go_wp2
                  go_ret
                  exact ⟨by first | rfl | (simp [errW_none, errW_some] <;> rfl) | (simp [*, errW_none, errW_some] <;> rfl), by repeat (first | (with_reducible first | exact HB.out | apply below_alloc | apply pw_below_drewN | apply below_drew1 | refine below_set ?_ GE190.out) | exact HB.out)⟩
end Go.Proofs.YtdjcechogbcdnaaDoor.XL
namespace Go.Proofs.YtdjcechogbcdnaaDoor.XL
open Go.RowKit Go.Proofs.YtdjcechogbcdnaaDoorW.PrintWords Go.Proofs.YtdjcechogbcdnaaDoorW.PrintLast Go.Proofs.YtdjcechogbcdnaaDoorW.PrintMore
set_option linter.unusedVariables false
set_option linter.unusedSimpArgs false
theorem wr_succ {i n : Nat} (h : i < n) (hn : n ≤ 9223372036854775807) : wrap64 ((i : Int) + 1) = ((i + 1 : Nat) : Int) := by
  unfold wrap64; omega
theorem rd_at {l : List Int} {i : Nat} (h : i < l.length) : rd l (i : Int) = l[i] := by
  unfold rd; simp [h]
theorem mkS_toList (l : List UInt8) : (⟨l.toArray⟩ : ByteArray).toList = l := by rw [ByteArray.toList_eq]
theorem Ev.pos {α : Type} {c : Prop} [Decidable c] {f g : Nat → Option α} {r : α} (hc : c) (h : Ev f r) : Ev (fun k => if c then f k else g k) r := Ev.congr (fun _ => if_pos hc) h
theorem Ev.neg {α : Type} {c : Prop} [Decidable c] {f g : Nat → Option α} {r : α} (hc : ¬ c) (h : Ev g r) : Ev (fun k => if c then f k else g k) r := Ev.congr (fun _ => if_neg hc) h
theorem Ev.val {α : Type} {r r' : α} (h : r = r') : Ev (fun _ => some r) r' := h ▸ Ev.now r
theorem Ev.val' {α : Type} {o : Option α} {r : α} (h : o = some r) : Ev (fun _ => o) r := h ▸ Ev.now r
theorem letters_eq : ∀ n : Fin 256, (bytesOf (⟨#[97, 98, 99, 100, 101, 102, 103, 104, 105, 106, 107, 108, 109, 110, 111, 112, 113, 114, 115, 116, 117, 118, 119, 120, 121, 122, 65, 66, 67, 68, 69, 70, 71, 72, 73, 74, 75, 76, 77, 78, 79, 80, 81, 82, 83, 84, 85, 86, 87, 88, 89, 90]⟩ : ByteArray)).contains ((n.val : Nat) : Int) = letterB ((n.val : Nat) : Int) := by decide +kernel
theorem digits_eq : ∀ n : Fin 256, (bytesOf (⟨#[48, 49, 50, 51, 52, 53, 54, 55, 56, 57, 95]⟩ : ByteArray)).contains ((n.val : Nat) : Int) = (decide (((n.val : Nat) : Int) = 95) || decide (48 ≤ ((n.val : Nat) : Int) ∧ ((n.val : Nat) : Int) ≤ 57)) := by decide +kernel
theorem in_loop (c : Int) (s : ByteArray) (hs : s.size ≤ 9223372036854775807) : ∀ d i : Nat, i + d = s.size → Ev (fun k => switchyardref06_in.l0 k c s (i : Int)) (((bytesOf s).drop i).contains c) := by
  intro d
  induction d with
  | zero =>
    intro i hi
    refine Ev.step (f := fun _ => some (((bytesOf s).drop i).contains c)) (fun k => ?_) (Ev.now _)
    have e : (bytesOf s).drop i = [] := List.drop_eq_nil_of_le (by simp [bytesOf]; omega)
    simp only [switchyardref06_in.l0]
    rw [if_neg (by omega), e]; rfl
  | succ d ih =>
    intro i hi
    have hlt : i < s.size := by omega
    have hl : i < (bytesOf s).length := by simp [bytesOf]; omega
    have hb : (bytesOf s)[i] = bt s i := by simp [bytesOf, bt, hlt]; rfl
    rw [List.drop_eq_getElem_cons hl, hb]
    by_cases hc : bt s i = c
    · refine Ev.step (f := fun _ => some true) (fun k => ?_) ?_
      · simp only [switchyardref06_in.l0]
        rw [if_pos (by omega), if_pos (by omega), if_pos hc]
      · rw [show (bt s i :: (bytesOf s).drop (i + 1)).contains c = true by simp [hc]]
        exact Ev.now _
    · refine Ev.step (f := fun k => switchyardref06_in.l0 k c s ((i + 1 : Nat) : Int)) (fun k => ?_) ?_
      · simp only [switchyardref06_in.l0]
        rw [if_pos (by omega), if_pos (by omega), if_neg hc, wr_succ hlt hs]
      · have := ih (i + 1) (by omega)
        rw [show (bt s i :: (bytesOf s).drop (i + 1)).contains c = ((bytesOf s).drop (i + 1)).contains c by
          rw [List.contains_cons]; have : (c == bt s i) = false := by simp; exact fun e => hc e.symm
          rw [this]; rfl]
        exact this
theorem in_ev (c : Int) (s : ByteArray) (hs : s.size ≤ 9223372036854775807) : Ev (fun k => switchyardref06_in.f k c s) ((bytesOf s).contains c) := by
  have := in_loop c s hs s.size 0 (by omega)
  simpa [switchyardref06_in.f] using this
theorem bt_fin (s : ByteArray) (i : Nat) : ∃ n : Fin 256, bt s (i : Int) = ((n.val : Nat) : Int) := by
  have h := qt_bt_range s i
  exact ⟨⟨(bt s i).toNat, by omega⟩, by simp; omega⟩
theorem okAt_eq (s : ByteArray) (i : Nat) : okAt i (bt s i) = (letterB (bt s i) || (decide (i ≠ 0) && (bytesOf (⟨#[48, 49, 50, 51, 52, 53, 54, 55, 56, 57, 95]⟩ : ByteArray)).contains (bt s i))) := by
  obtain ⟨n, hn⟩ := bt_fin s i
  rw [hn, digits_eq]; rfl
theorem name_loop (s : ByteArray) (hs : s.size ≤ 9223372036854775807) : ∀ d i : Nat, i + d = s.size → ∀ ok : Bool, Ev (fun k => switchyardref06_Name.l0 k s ok (i : Int)) (ok && (List.range d).all fun j => okAt (i + j) (bt s ((i + j : Nat) : Int))) := by
  intro d
  induction d with
  | zero =>
    intro i hi ok
    refine Ev.step (f := fun k => switchyardref06_Name.j2 k s ok (i : Int) false) (fun k => by simp only [switchyardref06_Name.l0]; rw [if_neg (by omega)]) ?_
    refine Ev.step (f := fun _ => some ok) (fun k => by simp only [switchyardref06_Name.j2]; rfl) ?_
    simpa using Ev.now ok
  | succ d ih =>
    intro i hi ok
    have hlt : i < s.size := by omega
    refine Ev.step (f := fun k => switchyardref06_Name.j2 k s ok (i : Int) ok) (fun k => by simp only [switchyardref06_Name.l0]; rw [if_pos (by omega)]) ?_
    cases ok with
    | false => exact Ev.step (f := fun _ => some false) (fun k => by simp only [switchyardref06_Name.j2]; rfl) (by simpa using Ev.now false)
    | true =>
      have hall : ((List.range (d + 1)).all fun j => okAt (i + j) (bt s ((i + j : Nat) : Int))) = (okAt i (bt s i) && (List.range d).all fun j => okAt (i + 1 + j) (bt s ((i + 1 + j : Nat) : Int))) := by
        rw [List.range_succ_eq_map, List.all_cons, List.all_map]
        congr 1
        congr 1
        funext j
        simp only [Function.comp]
        rw [show i + Nat.succ j = i + 1 + j by omega]
      rw [hall, Bool.true_and]
      refine Ev.step (f := fun k => (switchyardref06_in.f k (bt s i) (⟨#[97, 98, 99, 100, 101, 102, 103, 104, 105, 106, 107, 108, 109, 110, 111, 112, 113, 114, 115, 116, 117, 118, 119, 120, 121, 122, 65, 66, 67, 68, 69, 70, 71, 72, 73, 74, 75, 76, 77, 78, 79, 80, 81, 82, 83, 84, 85, 86, 87, 88, 89, 90]⟩ : ByteArray)).bind fun t131 => (if t131 = true then (switchyardref06_Name.l0 k s true (wrap64 ((i : Int) + 1))) else (if (i : Int) > 0 then ((switchyardref06_in.f k (bt s i) (⟨#[48, 49, 50, 51, 52, 53, 54, 55, 56, 57, 95]⟩ : ByteArray)).bind fun t132 => (switchyardref06_Name.l0 k s t132 (wrap64 ((i : Int) + 1)))) else (switchyardref06_Name.l0 k s false (wrap64 ((i : Int) + 1)))))) (fun k => by simp only [switchyardref06_Name.j2, if_true]; rw [if_pos (by omega), if_pos (by omega)]) ?_
      rw [wr_succ hlt hs]
      refine Ev.bind (in_ev _ _ (by decide)) ?_
      obtain ⟨n, hn⟩ := bt_fin s i
      rw [hn, letters_eq, ← hn, okAt_eq]
      cases hL : letterB (bt s i) with
      | true => simpa using ih (i + 1) (by omega) true
      | false =>
        by_cases h0 : i = 0
        · subst h0
          simpa using ih 1 (by omega) false
        · simp only [Bool.false_eq_true, if_false, Bool.false_or]
          refine Ev.pos (by omega) ?_
          refine Ev.bind (in_ev _ _ (by decide)) ?_
          have h0' : decide (i ≠ 0) = true := by simp [h0]
          rw [h0', Bool.true_and]
          exact ih (i + 1) (by omega) _
theorem name_ev (s : ByteArray) (hs : s.size ≤ 9223372036854775807) : Ev (fun k => switchyardref06_Name.f k s) (nameB s) := by
  unfold switchyardref06_Name.f nameB
  by_cases h0 : 0 < s.size
  · have e : ((s.size : Int) > 0) = True := eq_true (by omega)
    have e2 : decide ((s.size : Int) ≤ 24) = decide (0 < s.size ∧ s.size ≤ 24) := by
      rw [decide_eq_decide]; omega
    simp only [e, if_true, e2]
    refine Ev.step (fun k => by simp only [switchyardref06_Name.j0]; rfl) ?_
    have := name_loop s hs s.size 0 (by omega) (decide (0 < s.size ∧ s.size ≤ 24))
    simpa using this
  · have e : ((s.size : Int) > 0) = False := eq_false (by omega)
    have e2 : decide (0 < s.size ∧ s.size ≤ 24) = false := by simp [h0]
    simp only [e, if_false, e2, Bool.false_and]
    refine Ev.step (fun k => by simp only [switchyardref06_Name.j0]; rfl) ?_
    have := name_loop s hs s.size 0 (by omega) false
    simpa using this
def rightB (a n : Int) (t : ByteArray) (l : List Int) : Bool :=
  if a = 0 then decide (n = 0 ∧ t.size = 0 ∧ l.length = 0) else if a = 1 then decide (t.size = 0 ∧ l.length = 0) else if a = 2 then decide ((n = 0 ∨ n = 1) ∧ t.size = 0 ∧ l.length = 0)
  else if a = 3 then decide (n = 0 ∧ t.size ≤ 64 ∧ l.length = 0) else if a = 4 then decide (n = 0 ∧ l.length = 0) && nameB t else if a = 5 then decide (n = 0 ∧ t.size = 0 ∧ l.length ≤ 16) else false
def bs (l : List Int) : List UInt8 := l.map fun n => UInt8.ofNat n.toNat
def join2 (l : List Int) : List UInt8 := Lib.join (l.map Lib.itoa) [44, 32]
def printL (a n : Int) (t : ByteArray) (l : List Int) : List UInt8 :=
  if a = 1 then Lib.itoa n else if a = 2 then (if n = 1 then [116, 114, 117, 101] else [102, 97, 108, 115, 101]) else if a = 3 then bs (quotedL t) else if a = 4 then 39 :: t.data.toList
  else if a = 5 then 91 :: (join2 l ++ [93]) else [110, 111, 110, 101]
theorem dig1 (n : Nat) (h : n < 10) : Lib.decDigits n = [UInt8.ofNat (48 + n)] := by rw [Lib.decDigits, dif_pos h]
theorem cat_bytes (a b : List UInt8) : (⟨a.toArray⟩ : ByteArray) ++ ⟨b.toArray⟩ = ⟨(a ++ b).toArray⟩ := by
  apply ByteArray.ext
  simp
theorem wrap_bytes (x : List UInt8) : ((⟨#[91]⟩ : ByteArray) ++ ⟨x.toArray⟩) ++ ⟨#[93]⟩ = ⟨(91 :: (x ++ [93])).toArray⟩ := by
  apply ByteArray.ext
  simp
theorem digits_le (n : Nat) : ∀ k, n < 10 ^ (k + 1) → (Lib.decDigits n).length ≤ k + 1 := by
  intro k
  induction k generalizing n with
  | zero => intro h; rw [dig1 n (by simpa using h)]; simp
  | succ k ih =>
    intro h
    rw [Lib.decDigits]
    split
    · simp
    · have := ih (n / 10) (by rw [Nat.pow_succ] at h; omega)
      simp only [List.length_append, List.length_singleton]
      omega
theorem itoa_len (n : Int) (h0 : -9223372036854775808 ≤ n) (h1 : n ≤ 9223372036854775807) : (Lib.itoa n).length ≤ 20 := by
  unfold Lib.itoa
  split
  · have := digits_le n.natAbs 18 (by omega)
    simp only [List.length_cons]; omega
  · have := digits_le n.toNat 18 (by omega)
    omega
theorem join_len (sep : List UInt8) (m : Nat) (xs : List (List UInt8)) (h : ∀ x ∈ xs, x.length ≤ m) : (Lib.join xs sep).length ≤ xs.length * (m + sep.length) := by
  cases xs with
  | nil => simp [Lib.join_nil]
  | cons x r =>
    rw [Lib.join_cons]
    have hr : ∀ r : List (List UInt8), (∀ x ∈ r, x.length ≤ m) → (Lib.joinTail sep r).length ≤ r.length * (m + sep.length) := by
      intro r hr
      induction r with
      | nil => simp [Lib.joinTail]
      | cons y r ih =>
        have h1 := ih (fun z hz => hr z (List.mem_cons_of_mem _ hz))
        have h2 := hr y List.mem_cons_self
        unfold Lib.joinTail at h1 ⊢
        simp only [List.map_cons, List.flatten_cons, List.length_append, List.length_cons, Nat.succ_mul]
        omega
    have h1 := hr r (fun z hz => h z (List.mem_cons_of_mem _ hz))
    have h2 := h x List.mem_cons_self
    simp only [List.length_append, List.length_cons, Nat.succ_mul]
    omega
def Ints (l : List Int) : Prop := ∀ x ∈ l, -9223372036854775808 ≤ x ∧ x ≤ 9223372036854775807
theorem fmt_code (n : Int) (h0 : -9223372036854775808 ≤ n) (h1 : n ≤ 9223372036854775807) : strconv_FormatInt.f n 10 = some ⟨(Lib.itoa n).toArray⟩ := by
  unfold strconv_FormatInt.f
  rw [if_pos rfl, if_pos h0, if_pos h1]
theorem strs_map (l : List (List UInt8)) : (l.map fun x => (⟨x.toArray⟩ : ByteArray)).map (·.data.toList) = l := by simp [Function.comp_def]
theorem join_code (xs : List (List UInt8)) (sep : List UInt8) (h1 : xs.length ≤ 140737488355328) (h2 : (Lib.join xs sep).length ≤ 140737488355328) : strings_Join.f (xs.map fun x => (⟨x.toArray⟩ : ByteArray)) ⟨sep.toArray⟩ = some ⟨(Lib.join xs sep).toArray⟩ := by
  unfold strings_Join.f
  rw [strs_map, if_pos (by simpa using h1)]
  exact if_pos h2
theorem size_mk (l : List UInt8) : (⟨l.toArray⟩ : ByteArray).size = l.length := by show l.toArray.size = _; simp
theorem print_loop (l : List Int) (hl : l.length ≤ 16) (hI : Ints l) : ∀ d i : Nat, i + d = l.length → Ev (fun k => value_Print.l0 k ((l.take i).map fun n => (⟨(Lib.itoa n).toArray⟩ : ByteArray)) l (l.length : Int) (i : Int)) ⟨(91 :: (join2 l ++ [93])).toArray⟩ := by
  intro d
  induction d with
  | zero =>
    intro i hi
    refine Ev.step (fun k => by simp only [value_Print.l0]; rfl) ?_
    refine Ev.neg (by omega) ?_
    rw [List.take_of_length_le (by omega)]
    have hj : (join2 l).length ≤ 16 * 22 := by
      have := join_len [44, 32] 20 (l.map Lib.itoa) (fun x hx => by
        obtain ⟨n, hn, rfl⟩ := List.mem_map.1 hx
        exact itoa_len n (hI n hn).1 (hI n hn).2)
      unfold join2
      rw [List.length_map] at this
      simp only [List.length_cons, List.length_nil] at this
      omega
    have e : (l.map fun n => (⟨(Lib.itoa n).toArray⟩ : ByteArray)) = (l.map Lib.itoa).map fun x => (⟨x.toArray⟩ : ByteArray) := by simp
    have ej := join_code (l.map Lib.itoa) [44, 32] (by rw [List.length_map]; omega) (by show (join2 l).length ≤ _; omega)
    rw [e]
    refine Ev.bind (a := ⟨(join2 l).toArray⟩) (Ev.val' ej) ?_
    refine Ev.pos (by rw [size_mk]; omega) (Ev.pos (by rw [show (⟨#[91]⟩ : ByteArray) = ⟨([91] : List UInt8).toArray⟩ from rfl, cat_bytes, size_mk]; simp; omega) (Ev.val ?_))
    exact wrap_bytes _
  | succ d ih =>
    intro i hi
    have hlt : i < l.length := by omega
    refine Ev.step (fun k => by simp only [value_Print.l0]; rfl) ?_
    refine Ev.pos (by omega) (Ev.pos (by omega) (Ev.pos (by omega) ?_))
    have hm := hI _ (List.getElem_mem hlt)
    rw [rd_at hlt, fmt_code _ hm.1 hm.2]
    refine Ev.pos (by simp; omega) ?_
    rw [wr_succ hlt (by omega)]
    have := ih (i + 1) (by omega)
    rw [List.take_succ_eq_append_getElem hlt, List.map_append] at this
    exact this
theorem print_ev (a n : Int) (t : ByteArray) (l : List Int) (hr : rightB a n t l = true) (hn0 : -9223372036854775808 ≤ n) (hn1 : n ≤ 9223372036854775807) (hI : Ints l) : Ev (fun k => value_Print.f k a n t l) ⟨(printL a n t l).toArray⟩ := by
  unfold value_Print.f printL
  unfold rightB at hr
  by_cases h1 : a = 1
  · refine Ev.pos h1 ?_
    rw [if_pos h1, fmt_code n hn0 hn1]
    exact Ev.now _
  · refine Ev.neg h1 ?_
    rw [if_neg h1]
    by_cases h2 : a = 2
    · refine Ev.pos h2 ?_
      rw [if_pos h2]
      unfold strconv_FormatBool_44.f strconv_FormatBool_56.f
      by_cases e : n = 1
      · rw [if_pos e, if_pos (by simp [e])]; exact Ev.now _
      · rw [if_neg e, if_neg (by simp [e])]; exact Ev.now _
    · refine Ev.neg h2 ?_
      rw [if_neg h2]
      by_cases h3 : a = 3
      · subst h3
        simp at hr
        refine Ev.pos rfl ?_
        rw [if_pos rfl]
        unfold value_quoted.f
        rw [if_pos (by omega)]
        exact Ev.now _
      · refine Ev.neg h3 ?_
        rw [if_neg h3]
        by_cases h4 : a = 4
        · subst h4
          simp at hr
          have hs : t.size ≤ 24 := by
            have := hr.2
            unfold nameB at this
            simp at this
            omega
          refine Ev.pos rfl (Ev.pos (by omega) (Ev.val ?_))
          rw [if_pos rfl]
          apply ByteArray.ext
          simp
        · refine Ev.neg h4 ?_
          rw [if_neg h4]
          by_cases h5 : a = 5
          · subst h5
            simp at hr
            refine Ev.pos rfl ?_
            rw [if_pos rfl]
            have := print_loop l (by omega) hI l.length 0 (by omega)
            simpa using this
          · refine Ev.neg h5 ?_
            rw [if_neg h5]
            exact Ev.now _
def valD (l : List UInt8) : Nat := l.foldl (fun a c => 10 * a + (c.toNat - 48)) 0
def enc (c : UInt8) : List UInt8 := bs (qb (c.toNat : Int))
def hx (n : Nat) : UInt8 := UInt8.ofNat (hexd (n : Int)).toNat
def unhx (a : UInt8) : Nat := if a.toNat < 58 then a.toNat - 48 else a.toNat - 87
theorem enc_all : ∀ n : Fin 256, (bs (qb ((n.val : Nat) : Int)) = [UInt8.ofNat n.val] ∧ n.val ≠ 92 ∧ n.val ≠ 34) ∨ (bs (qb ((n.val : Nat) : Int)) = [92, UInt8.ofNat n.val] ∧ n.val ≠ 120) ∨ (bs (qb ((n.val : Nat) : Int)) = [92, 120, hx (n.val / 16), hx (n.val % 16)] ∧ unhx (hx (n.val / 16)) = n.val / 16 ∧ unhx (hx (n.val % 16)) = n.val % 16) := by decide +kernel
theorem enc_is (c : UInt8) : (enc c = [c] ∧ c ≠ 92 ∧ c ≠ 34) ∨ (enc c = [92, c] ∧ c ≠ 120) ∨ (enc c = [92, 120, hx (c.toNat / 16), hx (c.toNat % 16)] ∧ unhx (hx (c.toNat / 16)) = c.toNat / 16 ∧ unhx (hx (c.toNat % 16)) = c.toNat % 16) := by
  have h := enc_all ⟨c.toNat, c.toNat_lt⟩
  simp only [UInt8.ofNat_toNat] at h
  have ne : ∀ d : UInt8, c.toNat ≠ d.toNat → c ≠ d := fun d hn e => hn (by rw [e])
  rcases h with ⟨h1, h2, h3⟩ | ⟨h1, h2⟩ | h
  · exact Or.inl ⟨h1, ne 92 h2, ne 34 h3⟩
  · exact Or.inr (Or.inl ⟨h1, ne 120 h2⟩)
  · exact Or.inr (Or.inr h)
theorem enc_inj (c d : UInt8) (x y : List UInt8) (h : enc c ++ x = enc d ++ y) : c = d ∧ x = y := by
  rcases enc_is c with ⟨hc, h1, h2⟩ | ⟨hc, h1⟩ | ⟨hc, h1, h2⟩ <;> rcases enc_is d with ⟨hd, h3, h4⟩ | ⟨hd, h3⟩ | ⟨hd, h3, h4⟩ <;> rw [hc, hd] at h <;> simp only [List.cons_append, List.nil_append, List.cons.injEq] at h
  · exact h
  · exact absurd h.1 h1
  · exact absurd h.1 h1
  · exact absurd h.1.symm h3
  · exact ⟨h.2.1, h.2.2⟩
  · exact absurd h.2.1 h1
  · exact absurd h.1.symm h3
  · exact absurd h.2.1.symm h3
  · obtain ⟨_, _, e1, e2, e3⟩ := h
    refine ⟨UInt8.toNat_inj.1 ?_, e3⟩
    have a1 := congrArg unhx e1
    have a2 := congrArg unhx e2
    rw [h1, h3] at a1
    rw [h2, h4] at a2
    omega
theorem enc_ne34 (c : UInt8) (x y : List UInt8) : enc c ++ x ≠ 34 :: y := by
  intro h
  rcases enc_is c with ⟨hc, h1, h2⟩ | ⟨hc, h1⟩ | ⟨hc, h1, h2⟩ <;> rw [hc] at h <;> simp only [List.cons_append, List.nil_append, List.cons.injEq] at h
  · exact h2 h.1
  · exact absurd h.1 (by decide)
  · exact absurd h.1 (by decide)
theorem body_inj : ∀ (s t r r' : List UInt8), s.flatMap enc ++ 34 :: r = t.flatMap enc ++ 34 :: r' → s = t ∧ r = r'
  | [], [], r, r', h => ⟨rfl, (List.cons.inj h).2⟩
  | [], d :: t, r, r', h => by
    rw [List.flatMap_nil, List.nil_append, List.flatMap_cons, List.append_assoc] at h
    exact absurd h.symm (enc_ne34 _ _ _)
  | c :: s, [], r, r', h => by
    rw [List.flatMap_nil, List.nil_append, List.flatMap_cons, List.append_assoc] at h
    exact absurd h (enc_ne34 _ _ _)
  | c :: s, d :: t, r, r', h => by
    rw [List.flatMap_cons, List.flatMap_cons, List.append_assoc, List.append_assoc] at h
    obtain ⟨h1, h2⟩ := enc_inj _ _ _ _ h
    obtain ⟨h3, h4⟩ := body_inj s t r r' h2
    exact ⟨by rw [h1, h3], h4⟩
theorem quoted_bytes (t : ByteArray) : bs (quotedL t) = 34 :: (t.data.toList.flatMap enc ++ [34]) := by
  unfold quotedL bs bytesOf
  simp only [List.map_append, List.map_cons, List.map_nil, List.cons_append, List.map_flatMap, List.flatMap_map]
  rfl
theorem hex_all : ∀ n : Fin 256, bt (⟨#[48, 49, 50, 51, 52, 53, 54, 55, 56, 57, 97, 98, 99, 100, 101, 102]⟩ : ByteArray) ((Int.tdiv ((n.val : Nat) : Int) 16) % 256) = hexd (((n.val : Nat) : Int) / 16) ∧ bt (⟨#[48, 49, 50, 51, 52, 53, 54, 55, 56, 57, 97, 98, 99, 100, 101, 102]⟩ : ByteArray) (Int.tmod ((n.val : Nat) : Int) 16) = hexd (((n.val : Nat) : Int) % 16) := by decide +kernel
theorem take_flat (t : ByteArray) (i : Nat) (h : i < t.size) : ((bytesOf t).take (i + 1)).flatMap qb = ((bytesOf t).take i).flatMap qb ++ qb (bt t i) := by
  rw [qt_bt_take t i h, List.flatMap_append]; simp
theorem flat_len (t : ByteArray) (i : Nat) : (((bytesOf t).take i).flatMap qb).length ≤ 4 * i := by
  have := qt_flat_len ((bytesOf t).take i)
  have h2 : ((bytesOf t).take i).length ≤ i := List.length_take_le _ _
  omega
theorem ref_quoted_loop (a n : Int) (t : ByteArray) (l : List Int) (ht : t.size ≤ 64) : ∀ d i : Nat, i + d = t.size → Ev (fun k => switchyardref06_Print.l0 k (34 :: ((bytesOf t).take i).flatMap qb) (i : Int) a n t l) (strOfNums (quotedL t)) := by
  intro d
  induction d with
  | zero =>
    intro i hi
    have hl := flat_len t i
    refine Ev.step (fun k => by simp only [switchyardref06_Print.l0]; rfl) (Ev.neg (by omega) (Ev.pos (by simp only [List.length_cons]; omega) (Ev.val ?_)))
    rw [List.take_of_length_le (by rw [bytesOf_length]; omega)]; rfl
  | succ d ih =>
    intro i hi
    have hlt : i < t.size := by omega
    have hl := flat_len t i
    have next := ih (i + 1) (by omega)
    rw [take_flat t i hlt] at next
    obtain ⟨m, hm⟩ := bt_fin t i
    have hx := hex_all m
    rw [← hm] at hx
    have hb := bt_range t i
    refine Ev.step (fun k => by simp only [switchyardref06_Print.l0]; rfl) (Ev.pos (by omega) (Ev.pos (by omega) ?_))
    have body : ∀ b : Bool, b = decide (bt t i < 32 ∨ 126 < bt t i) → Ev (fun k => switchyardref06_Print.j2 k (34 :: ((bytesOf t).take i).flatMap qb) (i : Int) (bt t i) b a n t l) (strOfNums (quotedL t)) := by
      intro b hbb
      refine Ev.step (fun k => by simp only [switchyardref06_Print.j2]; rfl) ?_
      rw [wr_succ hlt (by omega)]
      cases b with
      | true =>
        have h := of_decide_eq_true hbb.symm
        rw [show qb (bt t i) = [92, 120, hexd (bt t i / 16), hexd (bt t i % 16)] by unfold qb; rw [if_pos h]] at next
        have ed : Int.tdiv (bt t i) 16 = bt t i / 16 := Int.tdiv_eq_ediv_of_nonneg hb.1
        have em : Int.tmod (bt t i) 16 = bt t i % 16 := Int.tmod_eq_emod_of_nonneg hb.1
        rw [hx.1, hx.2, ed, em]
        refine Ev.pos rfl (Ev.pos (by simp only [List.length_cons]; omega) (Ev.bind (Ev.now _) (Ev.pos (by simp only [List.length_cons, List.length_append, List.length_nil]; omega) (Ev.bind (Ev.now _) ?_))))
        refine Ev.pos (by omega) (Ev.pos (by omega) (Ev.pos (by simp only [List.length_cons, List.length_append, List.length_nil]; omega) (Ev.bind (Ev.now _) ?_)))
        refine Ev.pos (by omega) (Ev.pos (by omega) (Ev.pos (by simp only [List.length_cons, List.length_append, List.length_nil]; omega) ?_))
        simpa using next
      | false =>
        have h := of_decide_eq_false hbb.symm
        have e0 : qb (bt t i) = if bt t i = 34 ∨ bt t i = 92 then [92, bt t i] else [bt t i] := by unfold qb; rw [if_neg h]
        rw [e0] at next
        refine Ev.neg (by simp) ?_
        by_cases h34 : bt t i = 34
        · rw [if_pos (Or.inl h34)] at next
          refine Ev.pos h34 (Ev.pos (by simp only [List.length_cons]; omega) (Ev.bind (Ev.now _) (Ev.pos (by simp only [List.length_cons, List.length_append, List.length_nil]; omega) ?_)))
          simpa using next
        · refine Ev.neg h34 ?_
          by_cases h92 : bt t i = 92
          · rw [if_pos (Or.inr h92)] at next
            refine Ev.pos h92 (Ev.pos (by simp only [List.length_cons]; omega) (Ev.bind (Ev.now _) (Ev.pos (by simp only [List.length_cons, List.length_append, List.length_nil]; omega) ?_)))
            simpa using next
          · rw [if_neg (by omega)] at next
            refine Ev.neg h92 (Ev.pos (by simp only [List.length_cons]; omega) ?_)
            simpa using next
    by_cases h32 : bt t i < 32
    · exact Ev.pos h32 (body true (by simp [h32]))
    · exact Ev.neg h32 (body _ (by rw [decide_eq_decide]; omega))
theorem join_snoc (xs : List (List UInt8)) (y sep : List UInt8) (h : xs ≠ []) : Lib.join (xs ++ [y]) sep = Lib.join xs sep ++ (sep ++ y) := by
  obtain ⟨x, r, rfl⟩ := List.exists_cons_of_ne_nil h
  rw [List.cons_append, Lib.join_cons, Lib.join_cons]
  unfold Lib.joinTail
  simp
theorem deci_code (n : Int) (h0 : -9223372036854775808 ≤ n) (h1 : n ≤ 9223372036854775807) : switchyardref06_Decimal.f n = some ⟨(Lib.itoa n).toArray⟩ := by
  unfold switchyardref06_Decimal.f
  rw [if_pos h0, if_pos h1]
def mk (l : List UInt8) : ByteArray := ⟨l.toArray⟩
theorem mk_append (a b : List UInt8) : mk a ++ mk b = mk (a ++ b) := cat_bytes a b
theorem mk_size (a : List UInt8) : (mk a).size = a.length := size_mk a
theorem join2_len (l : List Int) (hl : l.length ≤ 16) (hI : Ints l) : (join2 l).length ≤ 400 := by
  have := join_len [44, 32] 20 (l.map Lib.itoa) (fun x hx => by
    obtain ⟨n, hn, rfl⟩ := List.mem_map.1 hx
    exact itoa_len n (hI n hn).1 (hI n hn).2)
  unfold join2
  rw [List.length_map] at this
  simp only [List.length_cons, List.length_nil] at this
  omega
theorem ref_list_loop (l : List Int) (hl : l.length ≤ 16) (hI : Ints l) : ∀ d i : Nat, i + d = l.length → Ev (fun k => switchyardref06_Print.l1 k (mk (91 :: join2 (l.take i))) l (l.length : Int) (i : Int)) (mk (91 :: (join2 l ++ [93]))) := by
  intro d
  have short : ∀ i, (join2 (l.take i)).length ≤ 400 := fun i => join2_len _ (by have := List.length_take_le i l; have := List.length_take_le' i l; omega) (fun x hx => hI x (List.mem_of_mem_take hx))
  induction d with
  | zero =>
    intro i hi
    have hs := short i
    refine Ev.step (fun k => by simp only [switchyardref06_Print.l1]; rfl) (Ev.neg (by omega) (Ev.pos (by rw [mk_size, List.length_cons]; omega) (Ev.val ?_)))
    rw [List.take_of_length_le (by omega)]
    exact mk_append (91 :: join2 l) [93]
  | succ d ih =>
    intro i hi
    have hlt : i < l.length := by omega
    have hs := short i
    have hm := hI _ (List.getElem_mem hlt)
    have hn := itoa_len _ hm.1 hm.2
    have next := ih (i + 1) (by omega)
    refine Ev.step (fun k => by simp only [switchyardref06_Print.l1]; rfl) (Ev.pos (by omega) (Ev.pos (by omega) (Ev.pos (by omega) ?_)))
    rw [rd_at hlt, deci_code _ hm.1 hm.2, wr_succ hlt (by omega)]
    have e2 : (⟨#[44, 32]⟩ : ByteArray) = mk [44, 32] := rfl
    have e3 : (⟨(Lib.itoa l[i]).toArray⟩ : ByteArray) = mk (Lib.itoa l[i]) := rfl
    rw [e2, e3]
    by_cases h0 : i = 0
    · subst h0
      refine Ev.neg (by omega) (Ev.bind (Ev.now _) (Ev.pos (by rw [mk_size, mk_size, List.length_cons]; omega) ?_))
      rw [mk_append]
      have e : join2 (l.take (0 + 1)) = Lib.itoa l[0] := by
        rw [List.take_succ_eq_append_getElem hlt]; unfold join2; simp [Lib.join_one]
      rw [e] at next
      have e4 : (91 :: join2 (l.take 0)) ++ Lib.itoa l[0] = 91 :: Lib.itoa l[0] := by simp [join2, Lib.join_nil]
      rw [e4]; exact next
    · refine Ev.pos (by omega) (Ev.pos (by rw [mk_size, List.length_cons]; omega) (Ev.bind (Ev.now _) (Ev.pos (by rw [mk_append, mk_size, mk_size, List.length_append, List.length_cons]; have e : ([44, 32] : List UInt8).length = 2 := rfl; omega) ?_)))
      rw [mk_append, mk_append]
      have e : join2 (l.take (i + 1)) = join2 (l.take i) ++ ([44, 32] ++ Lib.itoa l[i]) := by
        rw [List.take_succ_eq_append_getElem hlt]; unfold join2
        rw [List.map_append, List.map_cons, List.map_nil, join_snoc]
        intro h
        have := congrArg List.length h
        rw [List.length_map, List.length_take, List.length_nil] at this
        omega
      rw [e] at next
      simpa using next
theorem ref_print_ev (a n : Int) (t : ByteArray) (l : List Int) (hr : rightB a n t l = true) (hn0 : -9223372036854775808 ≤ n) (hn1 : n ≤ 9223372036854775807) (hI : Ints l) : Ev (fun k => switchyardref06_Print.f k a n t l) ⟨(printL a n t l).toArray⟩ := by
  unfold switchyardref06_Print.f printL
  unfold rightB at hr
  have no : ¬ a = 1 → ¬ a = 2 → Ev (fun k => switchyardref06_Print.j0 k false a n t l) ⟨(printL a n t l).toArray⟩ := by
    intro h1 h2
    unfold printL
    rw [if_neg h1, if_neg h2] at hr
    rw [if_neg h1, if_neg h2]
    refine Ev.step (fun k => by simp only [switchyardref06_Print.j0]; rfl) (Ev.neg (by simp) (Ev.neg h2 ?_))
    by_cases h4 : a = 4
    · subst h4
      simp at hr
      have hs : t.size ≤ 24 := by
        have := hr.2
        unfold nameB at this
        simp at this
        omega
      refine Ev.pos rfl (Ev.pos (by omega) (Ev.val ?_))
      rw [if_neg (by decide), if_pos rfl]
      apply ByteArray.ext
      simp
    · refine Ev.neg h4 ?_
      rw [if_neg h4]
      by_cases h3 : a = 3
      · subst h3
        simp at hr
        refine Ev.pos rfl (Ev.pos (by decide) ?_)
        rw [if_pos rfl]
        show Ev _ (strOfNums (quotedL t))
        have := ref_quoted_loop 3 n t l (by omega) t.size 0 (by omega)
        simpa using this
      · refine Ev.neg h3 ?_
        rw [if_neg h3]
        by_cases h5 : a = 5
        · subst h5
          simp at hr
          refine Ev.pos rfl ?_
          rw [if_pos rfl]
          have := ref_list_loop l (by omega) hI l.length 0 (by omega)
          simpa [mk, join2, Lib.join_nil] using this
        · refine Ev.neg h5 (Ev.val ?_)
          rw [if_neg h5]
  by_cases h1 : a = 1
  · refine Ev.pos h1 ?_
    rw [if_pos h1, deci_code n hn0 hn1]
    exact Ev.bind (Ev.now _) (Ev.now _)
  · refine Ev.neg h1 ?_
    by_cases h2 : a = 2
    · rw [if_neg h1, if_pos h2]
      refine Ev.pos h2 (Ev.step (fun k => by simp only [switchyardref06_Print.j0]; rfl) ?_)
      by_cases e : n = 1
      · refine Ev.pos (by simp [e]) (Ev.val ?_)
        rw [if_pos e]
      · refine Ev.neg (by simp [e]) (Ev.pos h2 (Ev.val ?_))
        rw [if_neg e]
    · have := no h1 h2
      unfold printL at this
      exact Ev.neg h2 this
end Go.Proofs.YtdjcechogbcdnaaDoor.XL
namespace Go.Proofs.YtdjcechogbcdnaaDoor.XL
open Go.RowKit Go.Proofs.YtdjcechogbcdnaaDoorW.PrintWords Go.Proofs.YtdjcechogbcdnaaDoorW.PrintLast Go.Proofs.YtdjcechogbcdnaaDoorW.PrintMore
attribute [local go_sem] max2_int min2_int max_two min_two max_three min_three max_four min_four   -- for this text's walks alone
set_option linter.unusedVariables false
set_option linter.unusedSimpArgs false
def loW (c : Int) : Int := bits .or .u8 c 32
def hexD (c : Int) : Option Int := if 48 ≤ c ∧ c ≤ 57 then some (c - 48) else if 97 ≤ c ∧ c ≤ 102 then some (c - 87) else if 65 ≤ c ∧ c ≤ 70 then some (c - 55) else none
set_option maxRecDepth 100000 in
theorem hexD_lo : ∀ c : Nat, c < 256 → hexD (c : Int) = (if 48 ≤ (c : Int) ∧ (c : Int) ≤ 57 then some ((c : Int) - 48) else if 97 ≤ loW c ∧ loW c ≤ 102 then some (loW c - 87) else none) := by decide
theorem hexD_none (c : Nat) (hc : c < 256) (h : hexD (c : Int) = none) : ¬ (48 ≤ (c : Int) ∧ (c : Int) ≤ 57) ∧ ¬ (97 ≤ bits .or .u8 (c : Int) 32 ∧ bits .or .u8 (c : Int) 32 ≤ 102) := by
  have h0 := hexD_lo c hc
  rw [h] at h0
  refine ⟨fun h1 => ?_, fun h1 => ?_⟩
  · split at h0
    · cases h0
    · exact absurd h1 (by assumption)
  · have h1' : 97 ≤ loW c ∧ loW c ≤ 102 := h1
    split at h0 <;> cases h0
theorem hexD_some (c : Nat) (hc : c < 256) (d : Int) (h : hexD (c : Int) = some d) : (48 ≤ (c : Int) ∧ (c : Int) ≤ 57 ∧ d = (c : Int) - 48) ∨ (¬ (48 ≤ (c : Int) ∧ (c : Int) ≤ 57) ∧ 97 ≤ bits .or .u8 (c : Int) 32 ∧ bits .or .u8 (c : Int) 32 ≤ 102 ∧ d = bits .or .u8 (c : Int) 32 - 87) := by
  have h0 := hexD_lo c hc
  rw [h] at h0
  by_cases h1 : 48 ≤ (c : Int) ∧ (c : Int) ≤ 57
  · rw [if_pos h1] at h0; exact Or.inl ⟨h1.1, h1.2, Option.some.inj h0⟩
  · rw [if_neg h1] at h0
    by_cases h2 : 97 ≤ loW c ∧ loW c ≤ 102
    · rw [if_pos h2] at h0; exact Or.inr ⟨h1, h2.1, h2.2, Option.some.inj h0⟩
    · rw [if_neg h2] at h0; cases h0
theorem hexD_lt (c d : Int) (h : hexD c = some d) : 0 ≤ d ∧ d < 16 := by
  unfold hexD at h
  split at h
  · cases h; omega
  · split at h
    · cases h; omega
    · split at h
      · cases h; omega
      · cases h
def hexAcc : Nat → List UInt8 → Option Nat
  | acc, [] => some acc
  | acc, c :: r => match hexD c.toNat with | none => none | some d => hexAcc (16 * acc + d.toNat) r
def hexTuple : Option Nat → Value
  | some n => .tuple #[.int .u64 n, .nilIface]
  | none => .tuple #[.int .u64 0, .iface 78 (.int .i64 2)]
set_option maxHeartbeats 32000000 in
set_option maxRecDepth 100000 in
theorem parse16 (t : ByteArray) (hne : t.size = 2) (w : World) :
    Calls Tryd.prog 49 #[.string t, .int .i64 16, .int .i64 8] w fun e w' => e = .returned (hexTuple (hexAcc 0 t.data.toList)) ∧ w' = Lib.bytesWorld w 5 t := by
  have hemp : t.toList.isEmpty = false := by
    rw [← decide_eq_emptyBytes]
    exact decide_eq_false (fun h => by rw [h] at hne; simp at hne)
  have hcv := Lib.run_convert_string_bytes (P := Tryd.prog) w 9 62 5 t (u := .string) Tryd.underlying9 Tryd.underlying62 Tryd.underlying5
  have hB : ∀ j, j < t.size → (Lib.bytesWorld w 5 t).cell? ⟨w.heap.size, j, none⟩ = some (.int .u8 (t.data.toList.getD j 0).toNat) := fun j hj => Lib.bytesWorld_cell w 5 t j hj
  obtain ⟨W1, hW1⟩ : ∃ W1, W1 = Lib.bytesWorld w 5 t := ⟨_, rfl⟩
  rw [← hW1] at hcv hB ⊢
  clear hW1
  obtain ⟨bs, hL⟩ : ∃ bs, bs = t.data.toList := ⟨_, rfl⟩
  have hLn : bs.length = t.size := by rw [hL, Lib.size_eq]
  rw [← hL] at hB ⊢
  clear hL
  have hmv : IntKind.u64.wrap (IntKind.u64.wrap 256 - 1) = 255 := by
    rw [IntKind.wrap_u64, IntKind.wrap_u64]
    decide
  go_enter Tryd.func49, Tryd.ntmps49
  go_wp2
  go_loop [12, 13, 101] (fun vu vn vi => ∃ (k acc : Nat) (a : Int), vu = .bool false ∧ vn = .int .u64 a ∧ vi = .int .i64 k ∧ k ≤ t.size ∧ Hid (a = (acc : Int) ∧ acc < 16 ^ k ∧ hexAcc 0 bs = hexAcc acc (bs.drop k)))
    (fun _ _ vi => t.size - (intOf vi).toNat)
  case atStart => exact ⟨0, 0, 0, rfl, rfl, rfl, by omega, rfl, by omega, rfl⟩
  case round =>
    obtain ⟨k, acc, a, rfl, rfl, rfl, hk, hh⟩ := hrel
    obtain ⟨ha, hacc, hdec⟩ := hh.out
    clear hh
    have a0 : 0 ≤ a := by omega
    by_cases hkn : k < t.size
    · have a1 : a ≤ 15 := by
        have : k = 0 ∨ k = 1 := by omega
        rcases this with rfl | rfl <;> omega
      have hc := hB k hkn
      have hdrop : bs.drop k = bs[k]'(by omega) :: bs.drop (k + 1) := List.drop_eq_getElem_cons (by omega)
      have hget : bs.getD k 0 = bs[k]'(by omega) := by simp [List.getD, List.getElem?_eq_getElem (show k < bs.length by omega)]
      rw [hdrop] at hdec
      rw [hget] at hc
      generalize bs[k]'(by omega) = c at hc hdec
      have hc256 : c.toNat < 256 := c.toNat_lt
      clear hB hdrop hget
      have hv0 := bits_lo_u8 .or (c.toNat : Int) 32
      have hv1 := bits_hi_u8 .or (c.toNat : Int) 32
      have hu0 := bits_lo_u8 .or 95 32
      have hu1 := bits_hi_u8 .or 95 32
      cases hx : hexD c.toNat with
      | none =>
        have hF : hexAcc acc (c :: bs.drop (k + 1)) = none := by simp [hexAcc, hx]
        rw [hF] at hdec
        obtain ⟨n1, n2⟩ := hexD_none _ hc256 hx
        clear hx hF hacc ha
        by_cases n3 : bits .or .u8 (c.toNat : Int) 32 < 97
        · clear n2
          go_wp2_with (go_at_call 59; refine (Tryd.internal_strconv_lower _ _).mono ?_; rintro e w' ⟨rfl, rfl⟩)
          all_goals go_ret2
          all_goals first | exact ⟨rfl, rfl⟩ | exact ⟨by rw [hdec]; rfl, rfl⟩
        · have n4 : 103 ≤ bits .or .u8 (c.toNat : Int) 32 := by omega
          clear n2 n3
          go_wp2_with (go_at_call 59; refine (Tryd.internal_strconv_lower _ _).mono ?_; rintro e w' ⟨rfl, rfl⟩)
          all_goals go_ret2
          all_goals first | exact ⟨rfl, rfl⟩ | exact ⟨by rw [hdec]; rfl, rfl⟩
      | some d =>
        obtain ⟨hd0, hd1⟩ := hexD_lt _ _ hx
        have hF : hexAcc acc (c :: bs.drop (k + 1)) = hexAcc (16 * acc + d.toNat) (bs.drop (k + 1)) := by simp [hexAcc, hx]
        have HN : Hid (a * 16 + d = ((16 * acc + d.toNat : Nat) : Int) ∧ 16 * acc + d.toNat < 16 ^ (k + 1) ∧ hexAcc 0 bs = hexAcc (16 * acc + d.toNat) (bs.drop (k + 1))) := Lib.hid ⟨by omega, by rw [Nat.pow_succ]; omega, hdec.trans hF⟩
        have hs := hexD_some _ hc256 d hx
        have h95 : ¬ (c.toNat : Int) = 95 := fun h => by rw [h] at hx; cases hx
        clear hF hdec hacc ha hx
        rcases hs with ⟨m0, m1, rfl⟩ | ⟨n1, m0, m1, rfl⟩
        · go_wp2
          refine ⟨⟨k + 1, _, a * 16 + ((c.toNat : Int) - 48), rfl, (by first | rfl | (congr 1; omega)), (by first | rfl | (congr 1; omega)), by omega, HN⟩, by simp [intOf]; omega⟩
        · go_wp2_with (go_at_call 59; refine (Tryd.internal_strconv_lower _ _).mono ?_; rintro e w' ⟨rfl, rfl⟩)
          all_goals refine ⟨⟨k + 1, _, a * 16 + (bits .or .u8 (c.toNat : Int) 32 - 87), rfl, (by first | rfl | (congr 1; omega)), (by first | rfl | (congr 1; omega)), by omega, HN⟩, by simp [intOf]; omega⟩
    · have hkk : k = t.size := by omega
      subst hkk
      have hF : hexAcc acc (bs.drop t.size) = some acc := by rw [List.drop_eq_nil_of_le (by omega)]; rfl
      rw [hF] at hdec
      subst ha
      clear hacc hF a0
      go_wp2
      go_ret2
      first | exact ⟨rfl, rfl⟩ | exact ⟨by rw [hdec]; rfl, rfl⟩
theorem hexAcc2 (t : ByteArray) (h : t.size = 2) : hexAcc 0 t.data.toList = (match hexD (bt t 0) with | none => none | some x => match hexD (bt t 1) with | none => none | some y => some (16 * x + y).toNat) := by
  obtain ⟨⟨l⟩⟩ := t
  match l, h with
  | [x, y], _ =>
    have e0 : bt ⟨⟨[x, y]⟩⟩ 0 = (x.toNat : Int) := rfl
    have e1 : bt ⟨⟨[x, y]⟩⟩ 1 = (y.toNat : Int) := rfl
    rw [e0, e1]
    simp only [hexAcc]
    cases hx : hexD (x.toNat : Int) with
    | none => rfl
    | some d =>
      simp only
      cases hy : hexD (y.toNat : Int) with
      | none => rfl
      | some e =>
        have := hexD_lt _ _ hx
        have := hexD_lt _ _ hy
        simp only [hexAcc]
        congr 1
        omega
/-- What strconv.ParseUint(s, 16, 8) answers of two bytes: the number, or some error. -/
def strconv_ParseUint.f (a0 : ByteArray) (a1 a2 : Int) : Option (Int × Option Int) := if a1 = 16 then (if a2 = 8 then (if a0.size = 2 then (match hexD (bt a0 0) with | none => some (0, some 0) | some x => match hexD (bt a0 1) with | none => some (0, some 0) | some y => some (16 * x + y, none)) else none) else none) else none
theorem parse16bad (t : ByteArray) (hs : t.size = 2) (hn : hexAcc 0 t.data.toList = none) (w : World) (hT : Tabs w) :
    Calls Tryd.prog 40 #[.string t, .int .i64 16, .int .i64 8] w fun e w' => (∃ ev, ErrV (some 0) ev ∧ e = .returned (.tuple #[.int .u64 0, ev])) ∧ Below w.heap.size w w' := by
  have HT := Aside0.mk hT
  have HN := Aside0.mk hn
  have HS := Aside0.mk hs
  have HB := Aside0.mk (Below.refl w.heap.size w)
  clear hT hn hs
  go_enter Tryd.func40, Tryd.ntmps40
  go_wp2_with (first
    | (go_at_call 49; refine calls_of_args (args' := #[.string t, .int .i64 16, .int .i64 8]) (by first | rfl) ?_; refine (parse16 t HS.out _).mono ?_; rintro e w1 ⟨rfl, hw⟩; have hb := Aside0.mk (by rw [hw]; exact Go.Joins.below_bytesWorld _ _ _ _ (Nat.le_refl _) : Below w.heap.size w w1); clear hw HB; have HB := hb; clear hb; rw [HN.out]; simp only [hexTuple])
    | (go_at_call 39; refine calls_of_args (args' := #[.string ⟨#[80, 97, 114, 115, 101, 85, 105, 110, 116]⟩, .string t, .int .i64 16, .int .i64 8, .iface 78 (.int .i64 2)]) (by first | rfl) ?_; obtain ⟨tp, p, hv⟩ := (Tabs.below HT.out HB.out).syntax_; refine (Tryd.strconv_toError_syntax _ t 16 8 (.iface tp p) _ (by rw [HS.out]; decide) (by have h0 := World.var?_cell (g := 2) (by kernel_rfl) hv 0; simpa using h0) (Or.inr ⟨tp, p, rfl⟩)).mono ?_; rintro e w2 ⟨N, rfl, _, _, hb⟩; have hb2 := Aside0.mk (below_step HB.out hb); clear hb HB; have HB := hb2; clear hb2))
  go_ret2
  exact ⟨⟨_, ⟨N, rfl⟩, rfl⟩, HB.out⟩
theorem parse16ok (t : ByteArray) (hs : t.size = 2) (n : Nat) (hn : hexAcc 0 t.data.toList = some n) (w : World) :
    Calls Tryd.prog 40 #[.string t, .int .i64 16, .int .i64 8] w fun e w' => (∃ ev, ErrV none ev ∧ e = .returned (.tuple #[.int .u64 n, ev])) ∧ Below w.heap.size w w' := by
  have HN := Aside0.mk hn
  have HS := Aside0.mk hs
  have HB := Aside0.mk (Below.refl w.heap.size w)
  clear hn hs
  go_enter Tryd.func40, Tryd.ntmps40
  go_wp2_with (first
    | (go_at_call 49; refine calls_of_args (args' := #[.string t, .int .i64 16, .int .i64 8]) (by first | rfl) ?_; refine (parse16 t HS.out _).mono ?_; rintro e w1 ⟨rfl, hw⟩; have hb := Aside0.mk (by rw [hw]; exact Go.Joins.below_bytesWorld _ _ _ _ (Nat.le_refl _) : Below w.heap.size w w1); clear hw HB; have HB := hb; clear hb; rw [HN.out]; simp only [hexTuple]))
  go_ret2
  exact ⟨⟨_, rfl, rfl⟩, HB.out⟩
theorem strconv_ParseUint.calls (a0 : ByteArray) (a1 a2 : Int) (r1 : Int) (r2 : Option Int) (w : World) (h : strconv_ParseUint.f a0 a1 a2 = some (r1, r2)) (hT : Tabs w) :
    Calls Tryd.prog 40 #[.string a0, .int .i64 a1, .int .i64 a2] w fun e w' => (∃ ev, ErrV r2 ev ∧ e = .returned (.tuple #[.int .u64 r1, ev])) ∧ Below w.heap.size w w' := by
  unfold strconv_ParseUint.f at h
  by_cases h1 : a1 = 16
  · rw [if_pos h1] at h
    subst h1
    by_cases h2 : a2 = 8
    · rw [if_pos h2] at h
      subst h2
      by_cases h3 : a0.size = 2
      · rw [if_pos h3] at h
        have h2 := hexAcc2 a0 h3
        cases hx : hexD (bt a0 0) with
        | none =>
          rw [hx] at h h2
          obtain ⟨rfl, rfl⟩ := Prod.mk.inj (Option.some.inj h)
          exact parse16bad a0 h3 h2 w hT
        | some x =>
          rw [hx] at h h2
          simp only at h h2
          cases hy : hexD (bt a0 1) with
          | none =>
            rw [hy] at h h2
            obtain ⟨rfl, rfl⟩ := Prod.mk.inj (Option.some.inj h)
            exact parse16bad a0 h3 h2 w hT
          | some y =>
            rw [hy] at h h2
            obtain ⟨rfl, rfl⟩ := Prod.mk.inj (Option.some.inj h)
            have b0 := hexD_lt _ _ hx
            have b1 := hexD_lt _ _ hy
            have e : (16 * x + y) = ((16 * x + y).toNat : Int) := by omega
            rw [e]
            exact parse16ok a0 h3 _ h2 w
      · rw [if_neg h3] at h; cases h
    · rw [if_neg h2] at h; cases h
  · rw [if_neg h1] at h; cases h
end Go.Proofs.YtdjcechogbcdnaaDoor.XL
namespace Go.Proofs.YtdjcechogbcdnaaDoor.XL
open Go.RowKit Go.Proofs.YtdjcechogbcdnaaDoorW.PrintWords Go.Proofs.YtdjcechogbcdnaaDoorW.PrintLast Go.Proofs.YtdjcechogbcdnaaDoorW.PrintMore
attribute [local go_sem] max2_int min2_int max_two min_two max_three min_three max_four min_four   -- for this text's walks alone
set_option linter.unusedVariables false
set_option linter.unusedSimpArgs false
mutual
def lex_text.l0 : Nat → ByteArray → List Int → Int → Option (Int × ByteArray × Bool)
  | 0, _, _, _ => none
  | k + 1, x0, x5, x6 => if x6 < (x0.size : Int) then (if 0 ≤ x6 then (if (bt x0 x6) = 34 then (if ((strOfNums x5).size : Int) ≤ 64 then ((value_Print.f k 3 0 (strOfNums x5) ([] : List Int)).bind fun t118 => (if 0 ≤ (wrap64 (x6 + 1)) then (if (wrap64 (x6 + 1)) ≤ (x0.size : Int) then (some (wrap64 (x6 + 1), strOfNums x5, (t118.toList == (x0.extract 0 ((wrap64 (x6 + 1)) : Int).toNat).toList))) else (none)) else (none))) else (some (wrap64 (x6 + 1), strOfNums x5, false))) else (if (bt x0 x6) = 92 then (if x6 ≤ (x0.size : Int) then ((strings_HasPrefix.f (x0.extract (x6 : Int).toNat x0.size) (⟨#[92, 120]⟩ : ByteArray)).bind fun t119 => (if t119 = true then (lex_text.j1 k x0 x5 x6 (bt x0 x6) (decide ((wrap64 (x6 + 3)) < (x0.size : Int)))) else (lex_text.j1 k x0 x5 x6 (bt x0 x6) false))) else (none)) else (lex_text.j1 k x0 x5 x6 (bt x0 x6) false))) else (none)) else (some (0, (⟨#[]⟩ : ByteArray), false))
def lex_text.j1 : Nat → ByteArray → List Int → Int → Int → Bool → Option (Int × ByteArray × Bool)
  | 0, _, _, _, _, _ => none
  | k + 1, x0, x5, x6, x7, x45 => if x45 = true then (if 0 ≤ (wrap64 (x6 + 2)) then (if (wrap64 (x6 + 2)) ≤ (wrap64 (x6 + 4)) then (if (wrap64 (x6 + 4)) ≤ (x0.size : Int) then ((strconv_ParseUint.f (x0.extract ((wrap64 (x6 + 2)) : Int).toNat ((wrap64 (x6 + 4)) : Int).toNat) 16 8).bind fun bt120 => (if bt120.2.isNone = true then (if x5.length < 140737488355328 then (lex_text.l0 k x0 (x5 ++ [(bt120.1) % 256]) (wrap64 ((wrap64 (x6 + 3)) + 1))) else (none)) else (some (0, (⟨#[]⟩ : ByteArray), false)))) else (none)) else (none)) else (none)) else (if x7 = 92 then (if (wrap64 (x6 + 1)) < (x0.size : Int) then (if 0 ≤ (wrap64 (x6 + 1)) then (if x5.length < 140737488355328 then (lex_text.l0 k x0 (x5 ++ [bt x0 (wrap64 (x6 + 1))]) (wrap64 ((wrap64 (x6 + 1)) + 1))) else (none)) else (none)) else (if x5.length < 140737488355328 then (lex_text.l0 k x0 (x5 ++ [x7]) (wrap64 (x6 + 1))) else (none))) else (if x5.length < 140737488355328 then (lex_text.l0 k x0 (x5 ++ [x7]) (wrap64 (x6 + 1))) else (none)))
end
def lex_text.f (k : Nat) (a0 : ByteArray) : Option (Int × ByteArray × Bool) := lex_text.l0 k a0 ([] : List Int) 1
def lex_text.T9 : Bool × List (List Nat × List Nat) := (true, [([], []), ([0], [0]), ([], []), ([], []), ([3], [3]), ([4], [4]), ([5], [5]), ([6], [6]), ([7, 6], [6, 7]), ([8, 6, 6], [6, 8]), ([6], [6]), ([6], [6]), ([11, 6], [6, 11]), ([10, 12, 6], [6, 10, 12]), ([9, 13, 6], [6, 9, 13]), ([6, 14], [6, 14]), ([1, 9, 0, 1], [1]), ([2, 16, 0, 1, 2, 16], [2]), ([15, 17, 0, 1, 2, 3, 4, 5, 6, 7, 8, 9, 10, 11, 12, 13, 14, 15, 16, 17], [15])])
def lex_text.B9 : List Nat := [0, 1, 0, 0, 8, 24, 56, 120, 248, 504, 120, 120, 2168, 7288, 16376, 32760, 1019, 66559, 262143]
theorem lex_text.tab9 : rtab .any (opsOf Tryd.f25 9) = lex_text.T9 := by kernel_rfl
theorem lex_text.bits9 : waitsOk lex_text.T9.2 lex_text.B9 = true := by kernel_rfl
set_option maxHeartbeats 4000000 in
set_option maxRecDepth 100000 in
theorem lex_text.calls (k : Nat) (a0 : ByteArray) (r1 : Int) (r2 : ByteArray) (r3 : Bool) (w : World) (h : lex_text.f k a0 = some (r1, r2, r3)) (hT : Tabs w) :
    Calls Tryd.prog 25 #[.string a0] w fun e w' => e = .returned (.tuple #[.int .i64 r1, .string r2, .bool r3]) ∧ Below w.heap.size w w' := by
  have HT := Aside0.mk hT
  clear hT
  have hu60 := Tryd.underlying60
  have hu46 := Tryd.underlying46
  have HB := Aside0.mk (Below.refl w.heap.size w)
  have H : (lex_text.l0 k a0 ([] : List Int) 1) = some (r1, r2, r3) := h
  clear h
  have H' := Aside0.mk H
  clear H
  go_enter Tryd.func25, Tryd.ntmps25
  go_wp2
  go_loopg [5, 6] k (fun kq v5 v6 w' => ∃ (x5_1 : List Int) (x6_1 : Int), v6 = .int .i64 x6_1 ∧ Aside0 (lex_text.l0 kq a0 x5_1 x6_1 = some (r1, r2, r3)) ∧ Aside0 (kq ≤ k) ∧ Aside0 (Kd.R (Kd.int .u8) 5 w' w.heap.size (fun _ => True) v5 x5_1) ∧ Aside0 (Below w.heap.size w w'))
  case atStart => exact ⟨(([] : List Int)), (1), (by first | rfl | (simp; done) | (simp [*]; done)), H', ⟨Nat.le_refl _⟩, ⟨by first | exact Kd.R_nil _ _ _ _ _ | exact Kd.N_nil _ _ _ _ _ | exact Kd.V_nil _ _ _ _ _ | exact Kd.Q_nil _ _ _ _ _ | exact Kd.S_nil _ _ _ _ _⟩, ⟨by repeat (first | (with_reducible first | exact HB.out | apply below_alloc | apply pw_below_drewN | apply below_drew1) | exact HB.out)⟩⟩
  case round =>
    clear H'
    obtain ⟨x5_1, x6_1, rfl, HA, HK1, HO_5, HB⟩ := hrel
    cases gk with
    | zero => exact absurd HA.out (by simp [lex_text.l0])
    | succ k1 =>
      have H := HA.out
      clear HA
      simp only [lex_text.l0] at H
      by_cases c2 : x6_1 < (a0.size : Int)
      · rw [if_pos c2] at H
        have c2b0 : decide (x6_1 < (a0.size : Int)) = true := decide_eq_true c2
        clear c2
        by_cases c3 : 0 ≤ x6_1
        · rw [if_pos c3] at H
          have c3b0 : decide (0 ≤ x6_1) = true := decide_eq_true c3
          clear c3
          by_cases c5 : (bt a0 x6_1) = 34
          · rw [if_pos c5] at H
            have c5b0 : ((bt a0 x6_1) == 34) = true := beq_iff_eq.mpr c5
            have c5b1 : ((bt a0 x6_1) != 34) = false := bne_eq_false_iff_eq.mpr c5
            clear c5
            by_cases c6 : ((strOfNums x5_1).size : Int) ≤ 64
            · rw [if_pos c6] at H
              have c6b0 : decide (((strOfNums x5_1).size : Int) ≤ 64) = true := decide_eq_true c6
              have c6b1 : decide ((strOfNums x5_1).size ≤ 64) = true := decide_eq_true (by omega)
              clear c6
              replace H := Option.bind_eq_some_iff.mp H
              obtain ⟨t118, A70, H⟩ := H
              replace H : (if 0 ≤ (wrap64 (x6_1 + 1)) then (if (wrap64 (x6_1 + 1)) ≤ (a0.size : Int) then (some (wrap64 (x6_1 + 1), strOfNums x5_1, (t118.toList == (a0.extract 0 ((wrap64 (x6_1 + 1)) : Int).toNat).toList))) else (none)) else (none)) = some (r1, r2, r3) := H
              have A7 := Aside0.mk A70
              clear A70
              obtain ⟨ji8, hji8⟩ : ∃ j_ : Int, (wrap64 (x6_1 + 1)) = j_ := ⟨_, rfl⟩
              replace H : (if 0 ≤ (ji8) then (if (ji8) ≤ (a0.size : Int) then (some (ji8, strOfNums x5_1, (t118.toList == (a0.extract 0 ((ji8) : Int).toNat).toList))) else (none)) else (none)) = some (r1, r2, r3) := by first | (rw [hji8] at H; exact H) | (simp only [hji8] at H ⊢; exact H)
              (try rw [hji8] at A7)
              have hji8w : (IntKind.i64.wrap (x6_1 + 1)) = ji8 := (i64_w _).trans hji8
              by_cases c9 : 0 ≤ (ji8)
              · rw [if_pos c9] at H
                have c9b0 := eq_true c9
                have c9b1 : decide (0 ≤ (ji8)) = true := decide_eq_true c9
                clear c9
                by_cases c10 : (ji8) ≤ (a0.size : Int)
                · rw [if_pos c10] at H
                  have c10b0 := eq_true c10
                  have c10b1 : decide ((ji8) ≤ (a0.size : Int)) = true := decide_eq_true c10
                  clear c10
                  simp only [Option.some.injEq, Prod.mk.injEq] at H
                  obtain ⟨rfl, rfl, rfl⟩ := H
                  have p4 : 0 ≤ (x6_1 : Int) := of_decide_eq_true (by first | (with_reducible assumption) | assumption)
                  have q4 : x6_1 < (a0.size : Int) := of_decide_eq_true (by first | (with_reducible assumption) | assumption)
                  have hx4 := bt_at a0 x6_1
                  replace p4 := eq_true p4
                  replace q4 := eq_true q4
                  have hcv11 := own_string (P := Tryd.prog) Tryd.underlying62 Tryd.underlying5 Tryd.underlying9 (Kd.own_of_R HO_5.out)
                  try go_wp2
                  have n0_ := Aside0.mk (Kd.R_drew HO_5.out)
                  have n1_ := Aside0.mk (below_drew1 HB.out)
                  clear HO_5
                  clear HB
                  have HO_5 := n0_
                  have HB := n1_
                  clear n0_ n1_
                  refine start_ (n := 19) (S := fun w' => True) (ds := []) #[false, false, false, false, false, false, false, false, false, false, false, false, false, false, false, false, false, false, false] (by kernel_rfl) rfl rfl trivial (fun hHeld => ?_); refine with_tabW lex_text.tab9 lex_text.bits9 (fun HT_ HW_ => ?_)
                  generalize wr.drew = w12 at HO_5 HB hHeld ⊢
                  refine pure_ (i := 0) (N := some 29) (v := ?_) (a' := ?_) #[true, false, false, false, false, false, false, false, false, false, false, false, false, false, false, false, false, false, false] rfl rfl (any_of HT_.out (by kernel_rfl)) (fun _ _ _ h => h) (Or.inl ⟨by rfl, ?_⟩) ?_ ?_
                  rotate_left
                  · intro w'
                    go_simp
                    with_reducible rfl
                  rotate_left
                  · simp only [Act.put, List.setIfInBounds_toArray, List.set_cons_zero, List.set_cons_succ, i64_w, i32_w]
                    rfl
                  refine pure_ (i := 1) (N := some 30) (v := ?_) (a' := ?_) #[true, true, false, false, false, false, false, false, false, false, false, false, false, false, false, false, false, false, false] rfl rfl (any_of HT_.out (by kernel_rfl)) (fun _ _ _ h => h) (Or.inl ⟨by rfl, ?_⟩) ?_ ?_
                  rotate_left
                  · intro w'
                    go_simp
                    with_reducible rfl
                  rotate_left
                  · simp only [Act.put, List.setIfInBounds_toArray, List.set_cons_zero, List.set_cons_succ, i64_w, i32_w]
                    rfl
                  refine pure_ (i := 2) (N := some 31) (v := ?_) (a' := ?_) #[true, true, true, false, false, false, false, false, false, false, false, false, false, false, false, false, false, false, false] rfl rfl (any_of HT_.out (by kernel_rfl)) (fun _ _ _ h => h) (Or.inl ⟨by rfl, ?_⟩) ?_ ?_
                  rotate_left
                  · intro w'
                    go_simp
                    with_reducible rfl
                  rotate_left
                  · simp only [Act.put, List.setIfInBounds_toArray, List.set_cons_zero, List.set_cons_succ, i64_w, i32_w]
                    rfl
                  refine pure_ (i := 3) (N := some 32) (v := ?_) (a' := ?_) #[true, true, true, true, false, false, false, false, false, false, false, false, false, false, false, false, false, false, false] rfl rfl (any_of HT_.out (by kernel_rfl)) (fun _ _ _ h => h) (Or.inl ⟨by rfl, ?_⟩) ?_ ?_
                  rotate_left
                  · intro w'
                    go_simp
                    with_reducible rfl
                  rotate_left
                  · simp only [Act.put, List.setIfInBounds_toArray, List.set_cons_zero, List.set_cons_succ, i64_w, i32_w]
                    rfl
                  refine pure_ (i := 4) (N := some 33) (v := ?_) (a' := ?_) #[true, true, true, true, true, false, false, false, false, false, false, false, false, false, false, false, false, false, false] rfl rfl (any_of HT_.out (by kernel_rfl)) (fun _ _ _ h => h) (Or.inl ⟨by rfl, ?_⟩) ?_ ?_
                  rotate_left
                  · intro w'
                    go_simp
                    with_reducible rfl
                  rotate_left
                  · simp only [Act.put, List.setIfInBounds_toArray, List.set_cons_zero, List.set_cons_succ, i64_w, i32_w]
                    rfl
                  refine pure_ (i := 5) (N := some 34) (v := ?_) (a' := ?_) #[true, true, true, true, true, true, false, false, false, false, false, false, false, false, false, false, false, false, false] rfl rfl (any_of HT_.out (by kernel_rfl)) (fun _ _ _ h => h) (Or.inl ⟨by rfl, ?_⟩) ?_ ?_
                  rotate_left
                  · intro w'
                    go_simp
                    with_reducible rfl
                  rotate_left
                  · simp only [Act.put, List.setIfInBounds_toArray, List.set_cons_zero, List.set_cons_succ, i64_w, i32_w]
                    rfl
                  refine pure_ (i := 6) (N := some 35) (v := ?_) (a' := ?_) #[true, true, true, true, true, true, true, false, false, false, false, false, false, false, false, false, false, false, false] rfl rfl (any_of HT_.out (by kernel_rfl)) (fun _ _ _ h => h) (Or.inl ⟨by rfl, ?_⟩) ?_ ?_
                  rotate_left
                  · intro w'
                    go_simp
                    with_reducible rfl
                  rotate_left
                  · simp only [Act.put, List.setIfInBounds_toArray, List.set_cons_zero, List.set_cons_succ, i64_w, i32_w]
                    rfl
                  refine pure_ (i := 7) (N := some 36) (v := ?_) (a' := ?_) #[true, true, true, true, true, true, true, true, false, false, false, false, false, false, false, false, false, false, false] rfl rfl (any_of HT_.out (by kernel_rfl)) (fun _ _ _ h => h) (Or.inl ⟨by rfl, ?_⟩) ?_ ?_
                  rotate_left
                  · intro w'
                    go_simp
                    with_reducible rfl
                  rotate_left
                  · simp only [Act.put, List.setIfInBounds_toArray, List.set_cons_zero, List.set_cons_succ, i64_w, i32_w]
                    rfl
                  refine pure_ (i := 8) (N := some 37) (v := ?_) (a' := ?_) #[true, true, true, true, true, true, true, true, true, false, false, false, false, false, false, false, false, false, false] rfl rfl (any_of HT_.out (by kernel_rfl)) (fun _ _ _ h => h) (Or.inl ⟨by rfl, ?_⟩) ?_ ?_
                  rotate_left
                  · intro w'
                    go_simp
                    with_reducible rfl
                  rotate_left
                  · simp only [Act.put, List.setIfInBounds_toArray, List.set_cons_zero, List.set_cons_succ, i64_w, i32_w]
                    rfl
                  refine pure_ (i := 10) (N := some 39) (v := ?_) (a' := ?_) #[true, true, true, true, true, true, true, true, true, false, true, false, false, false, false, false, false, false, false] rfl rfl (any_of HT_.out (by kernel_rfl)) (fun _ _ _ h => h) (Or.inl ⟨by rfl, ?_⟩) ?_ ?_
                  rotate_left
                  · intro w'
                    go_simp
                    with_reducible rfl
                  rotate_left
                  · simp only [Act.put, List.setIfInBounds_toArray, List.set_cons_zero, List.set_cons_succ, i64_w, i32_w]
                    rfl
                  refine pure_ (i := 11) (N := some 40) (v := ?_) (a' := ?_) #[true, true, true, true, true, true, true, true, true, false, true, true, false, false, false, false, false, false, false] rfl rfl (any_of HT_.out (by kernel_rfl)) (fun _ _ _ h => h) (Or.inl ⟨by rfl, ?_⟩) ?_ ?_
                  rotate_left
                  · intro w'
                    go_simp
                    with_reducible rfl
                  rotate_left
                  · simp only [Act.put, List.setIfInBounds_toArray, List.set_cons_zero, List.set_cons_succ, i64_w, i32_w]
                    rfl
                  refine pure_ (i := 12) (N := some 41) (v := ?_) (a' := ?_) #[true, true, true, true, true, true, true, true, true, false, true, true, true, false, false, false, false, false, false] rfl rfl (any_of HT_.out (by kernel_rfl)) (fun _ _ _ h => h) (Or.inl ⟨by rfl, ?_⟩) ?_ ?_
                  rotate_left
                  · intro w'
                    go_simp
                    with_reducible rfl
                  rotate_left
                  · simp only [Act.put, List.setIfInBounds_toArray, List.set_cons_zero, List.set_cons_succ, i64_w, i32_w]
                    rfl
                  refine pure_ (i := 13) (N := some 42) (v := ?_) (a' := ?_) #[true, true, true, true, true, true, true, true, true, false, true, true, true, true, false, false, false, false, false] rfl rfl (any_of HT_.out (by kernel_rfl)) (fun _ _ _ h => h) (Or.inl ⟨by rfl, ?_⟩) ?_ ?_
                  rotate_left
                  · intro w'
                    go_simp
                    with_reducible rfl
                  rotate_left
                  · simp only [Act.put, List.setIfInBounds_toArray, List.set_cons_zero, List.set_cons_succ, i64_w, i32_w]
                    rfl
                  refine one_ (i := 9) (N := some 38) #[true, true, true, true, true, true, true, true, true, true, true, true, true, true, false, false, false, false, false] rfl rfl (one_of HT_.out (by kernel_rfl)) (by decide) (fun K hK => ?_)
                  refine goes_ Tryd.func32 (by kernel_rfl) rfl #[.agg #[.int .i64 3, .int .i64 0, .string (strOfNums x5_1), .slice none 0 0]] (by rfl) rfl rfl (by (try simp only [List.map_toArray, List.map_cons, List.map_nil]); first | done | rfl | (simp only [List.length_drop, List.length_take]; rfl)) ?_
                  refine (value_Print.calls k1 3 0 (strOfNums x5_1) _ _ ([] : List Int) t118 _ ?side1 ?side2 A7.out (Tabs.below HT.out (by repeat (first | (with_reducible first | exact HB.out | apply below_alloc | apply pw_below_drewN | apply below_drew1) | exact HB.out)))).mono ?_
                  (case side1 => exact Kd.C_nil _ _)
                  (case side2 => exact Nat.le_refl _)
                  rintro e w13 ⟨rfl, hb⟩
                  refine ⟨_, rfl, ?_⟩
                  have n0_ := Aside0.mk (Kd.R_below (by (with_reducible repeat (first | apply Kd.R_alloc | apply Kd.R_drewN | apply Kd.R_drew)); exact HO_5.out) hb)
                  have n1_ := Aside0.mk (below_step (by repeat (first | (with_reducible first | exact HB.out | apply below_alloc | apply pw_below_drewN | apply below_drew1) | exact HB.out)) hb)
                  clear HO_5
                  clear HB
                  have HO_5 := n0_
                  have HB := n1_
                  clear n0_ n1_
                  (try clear hb)
                  (try clear hb2)
                  (try clear hk)
                  (try clear hi)
                  refine hK.out _ _ trivial (fun hHeld => ?_)
                  clear hK K
                  refine norm_ (a' := ?_) ?_ ?_
                  rotate_left
                  · show Act.put _ (some 38) _ = _
                    simp only [Act.put, List.setIfInBounds_toArray, List.set_cons_zero, List.set_cons_succ, i64_w, i32_w]
                    rfl
                  refine pure_ (i := 14) (N := some 43) (v := ?_) (a' := ?_) #[true, true, true, true, true, true, true, true, true, true, true, true, true, true, true, false, false, false, false] rfl rfl (any_of HT_.out (by kernel_rfl)) (fun _ _ _ h => h) (Or.inl ⟨by rfl, ?_⟩) ?_ ?_
                  rotate_left
                  · intro w'
                    go_simp
                    with_reducible rfl
                  rotate_left
                  · simp only [Act.put, List.setIfInBounds_toArray, List.set_cons_zero, List.set_cons_succ, i64_w, i32_w]
                    rfl
                  refine pure_ (i := 15) (N := some 44) (v := ?_) (a' := ?_) #[true, true, true, true, true, true, true, true, true, true, true, true, true, true, true, true, false, false, false] rfl rfl (any_of HT_.out (by kernel_rfl)) (fun _ _ _ h => h) (Or.inl ⟨by rfl, ?_⟩) ?_ ?_
                  rotate_left
                  · intro w'
                    go_simp
                    with_reducible rfl
                  rotate_left
                  · simp only [Act.put, List.setIfInBounds_toArray, List.set_cons_zero, List.set_cons_succ, i64_w, i32_w]
                    rfl
                  refine pure_ (i := 16) (N := some 2) (v := ?_) (a' := ?_) #[true, true, true, true, true, true, true, true, true, true, true, true, true, true, true, true, true, false, false] rfl rfl (any_of HT_.out (by kernel_rfl)) (fun _ _ _ h => h) (Or.inl ⟨by rfl, ?_⟩) ?_ ?_
                  rotate_left
                  · intro w'
                    go_simp
                    with_reducible rfl
                  rotate_left
                  · simp only [Act.put, List.setIfInBounds_toArray, List.set_cons_zero, List.set_cons_succ, i64_w, i32_w]
                    rfl
                  refine pure_ (i := 17) (N := some 3) (v := ?_) (a' := ?_) #[true, true, true, true, true, true, true, true, true, true, true, true, true, true, true, true, true, true, false] rfl rfl (any_of HT_.out (by kernel_rfl)) (fun _ _ _ h => h) (Or.inl ⟨by rfl, ?_⟩) ?_ ?_
                  rotate_left
                  · intro w'
                    go_simp
                    with_reducible rfl
                  rotate_left
                  · simp only [Act.put, List.setIfInBounds_toArray, List.set_cons_zero, List.set_cons_succ, i64_w, i32_w]
                    rfl
                  refine pure_ (i := 18) (N := some 4) (v := ?_) (a' := ?_) #[true, true, true, true, true, true, true, true, true, true, true, true, true, true, true, true, true, true, true] rfl rfl (any_of HT_.out (by kernel_rfl)) (fun _ _ _ h => h) (Or.inl ⟨by rfl, ?_⟩) ?_ ?_
                  rotate_left
                  · intro w'
                    go_simp
                    with_reducible rfl
                  rotate_left
                  · simp only [Act.put, List.setIfInBounds_toArray, List.set_cons_zero, List.set_cons_succ, i64_w, i32_w]
                    rfl
                  refine done_ (done_of HT_.out (by kernel_rfl)) ?_
                  try go_wp2
                  go_ret3
                  exact ⟨by first | rfl | (simp [errW_none, errW_some] <;> rfl) | (simp only [← hji8]; first | rfl | (simp [errW_none, errW_some] <;> rfl)) | (simp [*, errW_none, errW_some] <;> rfl), by repeat (first | (with_reducible first | exact HB.out | apply below_alloc | apply pw_below_drewN | apply below_drew1) | exact HB.out)⟩
                · rw [if_neg c10] at H
                  exact absurd H (by simp)
              · rw [if_neg c9] at H
                exact absurd H (by simp)
            · rw [if_neg c6] at H
              have c6b0 : decide (((strOfNums x5_1).size : Int) ≤ 64) = false := decide_eq_false c6
              have c6b1 : decide ((strOfNums x5_1).size ≤ 64) = false := decide_eq_false (by omega)
              clear c6
              simp only [Option.some.injEq, Prod.mk.injEq] at H
              obtain ⟨rfl, rfl, rfl⟩ := H
              have p4 : 0 ≤ (x6_1 : Int) := of_decide_eq_true (by first | (with_reducible assumption) | assumption)
              have q4 : x6_1 < (a0.size : Int) := of_decide_eq_true (by first | (with_reducible assumption) | assumption)
              have hx4 := bt_at a0 x6_1
              replace p4 := eq_true p4
              replace q4 := eq_true q4
              have hcv14 := own_string (P := Tryd.prog) Tryd.underlying62 Tryd.underlying5 Tryd.underlying9 (Kd.own_of_R HO_5.out)
              try go_wp2
              have n0_ := Aside0.mk (Kd.R_drew HO_5.out)
              have n1_ := Aside0.mk (below_drew1 HB.out)
              clear HO_5
              clear HB
              have HO_5 := n0_
              have HB := n1_
              clear n0_ n1_
              refine start_ (n := 19) (S := fun w' => True) (ds := []) #[false, false, false, false, false, false, false, false, false, false, false, false, false, false, false, false, false, false, false] (by kernel_rfl) rfl rfl trivial (fun hHeld => ?_); refine with_tabW lex_text.tab9 lex_text.bits9 (fun HT_ HW_ => ?_)
              generalize wr.drew = w15 at HO_5 HB hHeld ⊢
              refine pure_ (i := 0) (N := some 29) (v := ?_) (a' := ?_) #[true, false, false, false, false, false, false, false, false, false, false, false, false, false, false, false, false, false, false] rfl rfl (any_of HT_.out (by kernel_rfl)) (fun _ _ _ h => h) (Or.inl ⟨by rfl, ?_⟩) ?_ ?_
              rotate_left
              · intro w'
                go_simp
                with_reducible rfl
              rotate_left
              · simp only [Act.put, List.setIfInBounds_toArray, List.set_cons_zero, List.set_cons_succ, i64_w, i32_w]
                rfl
              refine pure_ (i := 1) (N := some 30) (v := ?_) (a' := ?_) #[true, true, false, false, false, false, false, false, false, false, false, false, false, false, false, false, false, false, false] rfl rfl (any_of HT_.out (by kernel_rfl)) (fun _ _ _ h => h) (Or.inl ⟨by rfl, ?_⟩) ?_ ?_
              rotate_left
              · intro w'
                go_simp
                with_reducible rfl
              rotate_left
              · simp only [Act.put, List.setIfInBounds_toArray, List.set_cons_zero, List.set_cons_succ, i64_w, i32_w]
                rfl
              refine pure_ (i := 2) (N := some 31) (v := ?_) (a' := ?_) #[true, true, true, false, false, false, false, false, false, false, false, false, false, false, false, false, false, false, false] rfl rfl (any_of HT_.out (by kernel_rfl)) (fun _ _ _ h => h) (Or.inl ⟨by rfl, ?_⟩) ?_ ?_
              rotate_left
              · intro w'
                go_simp
                with_reducible rfl
              rotate_left
              · simp only [Act.put, List.setIfInBounds_toArray, List.set_cons_zero, List.set_cons_succ, i64_w, i32_w]
                rfl
              refine pure_ (i := 3) (N := some 32) (v := ?_) (a' := ?_) #[true, true, true, true, false, false, false, false, false, false, false, false, false, false, false, false, false, false, false] rfl rfl (any_of HT_.out (by kernel_rfl)) (fun _ _ _ h => h) (Or.inl ⟨by rfl, ?_⟩) ?_ ?_
              rotate_left
              · intro w'
                go_simp
                with_reducible rfl
              rotate_left
              · simp only [Act.put, List.setIfInBounds_toArray, List.set_cons_zero, List.set_cons_succ, i64_w, i32_w]
                rfl
              refine pure_ (i := 4) (N := some 33) (v := ?_) (a' := ?_) #[true, true, true, true, true, false, false, false, false, false, false, false, false, false, false, false, false, false, false] rfl rfl (any_of HT_.out (by kernel_rfl)) (fun _ _ _ h => h) (Or.inl ⟨by rfl, ?_⟩) ?_ ?_
              rotate_left
              · intro w'
                go_simp
                with_reducible rfl
              rotate_left
              · simp only [Act.put, List.setIfInBounds_toArray, List.set_cons_zero, List.set_cons_succ, i64_w, i32_w]
                rfl
              refine pure_ (i := 5) (N := some 34) (v := ?_) (a' := ?_) #[true, true, true, true, true, true, false, false, false, false, false, false, false, false, false, false, false, false, false] rfl rfl (any_of HT_.out (by kernel_rfl)) (fun _ _ _ h => h) (Or.inl ⟨by rfl, ?_⟩) ?_ ?_
              rotate_left
              · intro w'
                go_simp
                with_reducible rfl
              rotate_left
              · simp only [Act.put, List.setIfInBounds_toArray, List.set_cons_zero, List.set_cons_succ, i64_w, i32_w]
                rfl
              refine pure_ (i := 6) (N := some 35) (v := ?_) (a' := ?_) #[true, true, true, true, true, true, true, false, false, false, false, false, false, false, false, false, false, false, false] rfl rfl (any_of HT_.out (by kernel_rfl)) (fun _ _ _ h => h) (Or.inl ⟨by rfl, ?_⟩) ?_ ?_
              rotate_left
              · intro w'
                go_simp
                with_reducible rfl
              rotate_left
              · simp only [Act.put, List.setIfInBounds_toArray, List.set_cons_zero, List.set_cons_succ, i64_w, i32_w]
                rfl
              refine pure_ (i := 7) (N := some 36) (v := undef) (a' := ?_) #[true, true, true, true, true, true, true, true, false, false, false, false, false, false, false, false, false, false, false] rfl rfl (any_of HT_.out (by kernel_rfl)) (fun _ _ _ h => h) (Or.inr ⟨by rfl, rfl⟩) ?_ ?_
              rotate_left
              · simp only [Act.put, List.setIfInBounds_toArray, List.set_cons_zero, List.set_cons_succ, i64_w, i32_w]
                rfl
              refine pure_ (i := 8) (N := some 37) (v := undef) (a' := ?_) #[true, true, true, true, true, true, true, true, true, false, false, false, false, false, false, false, false, false, false] rfl rfl (any_of HT_.out (by kernel_rfl)) (fun _ _ _ h => h) (Or.inr ⟨by rfl, rfl⟩) ?_ ?_
              rotate_left
              · simp only [Act.put, List.setIfInBounds_toArray, List.set_cons_zero, List.set_cons_succ, i64_w, i32_w]
                rfl
              refine pure_ (i := 9) (N := some 38) (v := undef) (a' := ?_) #[true, true, true, true, true, true, true, true, true, true, false, false, false, false, false, false, false, false, false] rfl rfl (any_of HT_.out (by kernel_rfl)) (fun _ _ _ h => h) (Or.inr ⟨by rfl, rfl⟩) ?_ ?_
              rotate_left
              · simp only [Act.put, List.setIfInBounds_toArray, List.set_cons_zero, List.set_cons_succ, i64_w, i32_w]
                rfl
              refine pure_ (i := 10) (N := some 39) (v := undef) (a' := ?_) #[true, true, true, true, true, true, true, true, true, true, true, false, false, false, false, false, false, false, false] rfl rfl (any_of HT_.out (by kernel_rfl)) (fun _ _ _ h => h) (Or.inr ⟨by rfl, rfl⟩) ?_ ?_
              rotate_left
              · simp only [Act.put, List.setIfInBounds_toArray, List.set_cons_zero, List.set_cons_succ, i64_w, i32_w]
                rfl
              refine pure_ (i := 11) (N := some 40) (v := undef) (a' := ?_) #[true, true, true, true, true, true, true, true, true, true, true, true, false, false, false, false, false, false, false] rfl rfl (any_of HT_.out (by kernel_rfl)) (fun _ _ _ h => h) (Or.inr ⟨by rfl, rfl⟩) ?_ ?_
              rotate_left
              · simp only [Act.put, List.setIfInBounds_toArray, List.set_cons_zero, List.set_cons_succ, i64_w, i32_w]
                rfl
              refine pure_ (i := 12) (N := some 41) (v := undef) (a' := ?_) #[true, true, true, true, true, true, true, true, true, true, true, true, true, false, false, false, false, false, false] rfl rfl (any_of HT_.out (by kernel_rfl)) (fun _ _ _ h => h) (Or.inr ⟨by rfl, rfl⟩) ?_ ?_
              rotate_left
              · simp only [Act.put, List.setIfInBounds_toArray, List.set_cons_zero, List.set_cons_succ, i64_w, i32_w]
                rfl
              refine pure_ (i := 13) (N := some 42) (v := undef) (a' := ?_) #[true, true, true, true, true, true, true, true, true, true, true, true, true, true, false, false, false, false, false] rfl rfl (any_of HT_.out (by kernel_rfl)) (fun _ _ _ h => h) (Or.inr ⟨by rfl, rfl⟩) ?_ ?_
              rotate_left
              · simp only [Act.put, List.setIfInBounds_toArray, List.set_cons_zero, List.set_cons_succ, i64_w, i32_w]
                rfl
              refine pure_ (i := 14) (N := some 43) (v := undef) (a' := ?_) #[true, true, true, true, true, true, true, true, true, true, true, true, true, true, true, false, false, false, false] rfl rfl (any_of HT_.out (by kernel_rfl)) (fun _ _ _ h => h) (Or.inr ⟨by rfl, rfl⟩) ?_ ?_
              rotate_left
              · simp only [Act.put, List.setIfInBounds_toArray, List.set_cons_zero, List.set_cons_succ, i64_w, i32_w]
                rfl
              refine pure_ (i := 15) (N := some 44) (v := ?_) (a' := ?_) #[true, true, true, true, true, true, true, true, true, true, true, true, true, true, true, true, false, false, false] rfl rfl (any_of HT_.out (by kernel_rfl)) (fun _ _ _ h => h) (Or.inl ⟨by rfl, ?_⟩) ?_ ?_
              rotate_left
              · intro w'
                go_simp
                with_reducible rfl
              rotate_left
              · simp only [Act.put, List.setIfInBounds_toArray, List.set_cons_zero, List.set_cons_succ, i64_w, i32_w]
                rfl
              refine pure_ (i := 16) (N := some 2) (v := ?_) (a' := ?_) #[true, true, true, true, true, true, true, true, true, true, true, true, true, true, true, true, true, false, false] rfl rfl (any_of HT_.out (by kernel_rfl)) (fun _ _ _ h => h) (Or.inl ⟨by rfl, ?_⟩) ?_ ?_
              rotate_left
              · intro w'
                go_simp
                with_reducible rfl
              rotate_left
              · simp only [Act.put, List.setIfInBounds_toArray, List.set_cons_zero, List.set_cons_succ, i64_w, i32_w]
                rfl
              refine pure_ (i := 17) (N := some 3) (v := ?_) (a' := ?_) #[true, true, true, true, true, true, true, true, true, true, true, true, true, true, true, true, true, true, false] rfl rfl (any_of HT_.out (by kernel_rfl)) (fun _ _ _ h => h) (Or.inl ⟨by rfl, ?_⟩) ?_ ?_
              rotate_left
              · intro w'
                go_simp
                with_reducible rfl
              rotate_left
              · simp only [Act.put, List.setIfInBounds_toArray, List.set_cons_zero, List.set_cons_succ, i64_w, i32_w]
                rfl
              refine pure_ (i := 18) (N := some 4) (v := ?_) (a' := ?_) #[true, true, true, true, true, true, true, true, true, true, true, true, true, true, true, true, true, true, true] rfl rfl (any_of HT_.out (by kernel_rfl)) (fun _ _ _ h => h) (Or.inl ⟨by rfl, ?_⟩) ?_ ?_
              rotate_left
              · intro w'
                go_simp
                with_reducible rfl
              rotate_left
              · simp only [Act.put, List.setIfInBounds_toArray, List.set_cons_zero, List.set_cons_succ, i64_w, i32_w]
                rfl
              refine done_ (done_of HT_.out (by kernel_rfl)) ?_
              try go_wp2
              go_ret3
              exact ⟨by first | rfl | (simp [errW_none, errW_some] <;> rfl) | (simp [*, errW_none, errW_some] <;> rfl), by repeat (first | (with_reducible first | exact HB.out | apply below_alloc | apply pw_below_drewN | apply below_drew1) | exact HB.out)⟩
          · rw [if_neg c5] at H
            have c5b0 : ((bt a0 x6_1) == 34) = false := beq_eq_false_iff_ne.mpr c5
            have c5b1 : ((bt a0 x6_1) != 34) = true := bne_iff_ne.mpr c5
            have HC16 := Aside0.mk H
            clear H
            have p4 : 0 ≤ (x6_1 : Int) := of_decide_eq_true (by first | (with_reducible assumption) | assumption)
            have q4 : x6_1 < (a0.size : Int) := of_decide_eq_true (by first | (with_reducible assumption) | assumption)
            have hx4 := bt_at a0 x6_1
            replace p4 := eq_true p4
            replace q4 := eq_true q4
            go_upto_region 10 with (fail)
            go_cut [45] (fun v45 wc => ∃ (kq : Nat) (x45_15 : Bool), v45 = .bool x45_15 ∧ Aside0 (lex_text.j1 kq a0 x5_1 x6_1 (bt a0 x6_1) x45_15 = some (r1, r2, r3)) ∧ Aside0 (kq ≤ k1) ∧ Aside0 (Kd.R (Kd.int .u8) 5 wc w.heap.size (fun _ => True) u5 x5_1) ∧ Aside0 (Below w.heap.size w wc))
            case first =>
              have H := HC16.out
              clear HC16
              by_cases c17 : (bt a0 x6_1) = 92
              · rw [if_pos c17] at H
                have c17b0 : ((bt a0 x6_1) == 92) = true := beq_iff_eq.mpr c17
                have c17b1 : ((bt a0 x6_1) != 92) = false := bne_eq_false_iff_eq.mpr c17
                clear c17
                (first | rw [c17b0] | (simp only [i64_w, i32_w]; rw [c17b0]) | skip)
                have c18b0 := eq_true (of_decide_eq_true (by first | (with_reducible assumption) | assumption) : 0 ≤ x6_1)
                by_cases c19 : x6_1 ≤ (a0.size : Int)
                · rw [if_pos c19] at H
                  have c19b0 := eq_true c19
                  have c19b1 : decide (x6_1 ≤ (a0.size : Int)) = true := decide_eq_true c19
                  clear c19
                  replace H := Option.bind_eq_some_iff.mp H
                  obtain ⟨t119, A200, H⟩ := H
                  replace H : (if t119 = true then (lex_text.j1 k1 a0 x5_1 x6_1 (bt a0 x6_1) (decide ((wrap64 (x6_1 + 3)) < (a0.size : Int)))) else (lex_text.j1 k1 a0 x5_1 x6_1 (bt a0 x6_1) false)) = some (r1, r2, r3) := H
                  have A20 := Aside0.mk A200
                  clear A200
                  by_cases c21 : t119 = true
                  · subst c21
                    have H1 : (lex_text.j1 k1 a0 x5_1 x6_1 (bt a0 x6_1) (decide ((wrap64 (x6_1 + 3)) < (a0.size : Int)))) = some (r1, r2, r3) := by rw [if_pos rfl] at H; exact H
                    clear H
                    have H := H1
                    clear H1
                    have H' := Aside0.mk H
                    clear H
                    go_wp2_with (first | (go_at_call 19; refine calls_of_args (args' := #[.string (a0.extract (x6_1 : Int).toNat a0.size), .string (⟨#[92, 120]⟩ : ByteArray)]) (by first | rfl) ?_; (with_reducible refine (strings_HasPrefix.calls (a0.extract (x6_1 : Int).toNat a0.size) (⟨#[92, 120]⟩ : ByteArray) true _ A20.out).mono ?_); rintro e w' ⟨rfl, ⟨nd, rfl⟩⟩))
                    go_meet
                    case rel => exact ⟨_, (decide ((wrap64 (x6_1 + 3)) < (a0.size : Int))), (by first | rfl | (simp; done) | (simp [*]; done)), H', ⟨by have := HK1.out; first | omega | exact Nat.le_refl _⟩, ⟨by (with_reducible repeat (first | apply Kd.R_alloc | apply Kd.R_drewN | apply Kd.R_drew)); exact HO_5.out⟩, ⟨by repeat (first | (with_reducible first | exact HB.out | apply below_alloc | apply pw_below_drewN | apply below_drew1) | exact HB.out)⟩⟩
                  · replace c21 := Bool.eq_false_iff.mpr c21
                    subst c21
                    have H1 : (lex_text.j1 k1 a0 x5_1 x6_1 (bt a0 x6_1) false) = some (r1, r2, r3) := by rw [if_neg (show ¬ (false = true) by decide)] at H; exact H
                    clear H
                    have H := H1
                    clear H1
                    have H' := Aside0.mk H
                    clear H
                    go_wp2_with (first | (go_at_call 19; refine calls_of_args (args' := #[.string (a0.extract (x6_1 : Int).toNat a0.size), .string (⟨#[92, 120]⟩ : ByteArray)]) (by first | rfl) ?_; (with_reducible refine (strings_HasPrefix.calls (a0.extract (x6_1 : Int).toNat a0.size) (⟨#[92, 120]⟩ : ByteArray) false _ A20.out).mono ?_); rintro e w' ⟨rfl, ⟨nd, rfl⟩⟩))
                    go_meet
                    case rel => exact ⟨_, (false), (by first | rfl | (simp; done) | (simp [*]; done)), H', ⟨by have := HK1.out; first | omega | exact Nat.le_refl _⟩, ⟨by (with_reducible repeat (first | apply Kd.R_alloc | apply Kd.R_drewN | apply Kd.R_drew)); exact HO_5.out⟩, ⟨by repeat (first | (with_reducible first | exact HB.out | apply below_alloc | apply pw_below_drewN | apply below_drew1) | exact HB.out)⟩⟩
                · rw [if_neg c19] at H
                  exact absurd H (by simp)
              · rw [if_neg c17] at H
                have c17b0 : ((bt a0 x6_1) == 92) = false := beq_eq_false_iff_ne.mpr c17
                have c17b1 : ((bt a0 x6_1) != 92) = true := bne_iff_ne.mpr c17
                (first | rw [c17b0] | (simp only [i64_w, i32_w]; rw [c17b0]) | skip)
                have H' := Aside0.mk H
                clear H
                go_wp2
                go_meet
                case rel => exact ⟨_, (false), (by first | rfl | (simp; done) | (simp [*]; done)), H', ⟨by have := HK1.out; first | omega | exact Nat.le_refl _⟩, ⟨by (with_reducible repeat (first | apply Kd.R_alloc | apply Kd.R_drewN | apply Kd.R_drew)); exact HO_5.out⟩, ⟨by repeat (first | (with_reducible first | exact HB.out | apply below_alloc | apply pw_below_drewN | apply below_drew1) | exact HB.out)⟩⟩
            case rest =>
              clear HC16
              try clear c1
              try clear hcv1
              try clear c2
              try clear c2b0
              try clear p2
              try clear c3
              try clear c3b0
              try clear p4
              try clear q4
              try clear hx4
              try clear c5
              try clear c5b0
              try clear c5b1
              try clear c6
              try clear c6b0
              try clear c6b1
              try clear p6
              try clear c9
              try clear c9b0
              try clear c9b1
              try clear c10
              try clear c10b0
              try clear c10b1
              try clear hcv11
              try clear hcv14
              try clear c17
              try clear c17b0
              try clear c17b1
              try clear c18
              try clear c18b0
              try clear c19
              try clear c19b0
              try clear c19b1
              try clear c21
              try clear p4
              try clear q4
              obtain ⟨kq, x45_15, rfl, HA, HJ15, HO_5, HB⟩ := hcut
              cases kq with
              | zero => exact absurd HA.out (by simp [lex_text.j1])
              | succ kj15 =>
                have H := HA.out
                clear HA
                simp only [lex_text.j1] at H
                by_cases c22 : x45_15 = true
                · subst c22
                  have H1 : (if 0 ≤ (wrap64 (x6_1 + 2)) then (if (wrap64 (x6_1 + 2)) ≤ (wrap64 (x6_1 + 4)) then (if (wrap64 (x6_1 + 4)) ≤ (a0.size : Int) then ((strconv_ParseUint.f (a0.extract ((wrap64 (x6_1 + 2)) : Int).toNat ((wrap64 (x6_1 + 4)) : Int).toNat) 16 8).bind fun bt120 => (if bt120.2.isNone = true then (if x5_1.length < 140737488355328 then (lex_text.l0 kj15 a0 (x5_1 ++ [(bt120.1) % 256]) (wrap64 ((wrap64 (x6_1 + 3)) + 1))) else (none)) else (some (0, (⟨#[]⟩ : ByteArray), false)))) else (none)) else (none)) else (none)) = some (r1, r2, r3) := by rw [if_pos rfl] at H; exact H
                  clear H
                  have H := H1
                  clear H1
                  obtain ⟨ji23, hji23⟩ : ∃ j_ : Int, (wrap64 (x6_1 + 2)) = j_ := ⟨_, rfl⟩
                  replace H : (if 0 ≤ (ji23) then (if (ji23) ≤ (wrap64 (x6_1 + 4)) then (if (wrap64 (x6_1 + 4)) ≤ (a0.size : Int) then ((strconv_ParseUint.f (a0.extract ((ji23) : Int).toNat ((wrap64 (x6_1 + 4)) : Int).toNat) 16 8).bind fun bt120 => (if bt120.2.isNone = true then (if x5_1.length < 140737488355328 then (lex_text.l0 kj15 a0 (x5_1 ++ [(bt120.1) % 256]) (wrap64 ((wrap64 (x6_1 + 3)) + 1))) else (none)) else (some (0, (⟨#[]⟩ : ByteArray), false)))) else (none)) else (none)) else (none)) = some (r1, r2, r3) := by first | (rw [hji23] at H; exact H) | (simp only [hji23] at H ⊢; exact H)
                  have hji23w : (IntKind.i64.wrap (x6_1 + 2)) = ji23 := (i64_w _).trans hji23
                  by_cases c24 : 0 ≤ (ji23)
                  · rw [if_pos c24] at H
                    have c24b0 := eq_true c24
                    have c24b1 : decide (0 ≤ (ji23)) = true := decide_eq_true c24
                    clear c24
                    by_cases c25 : (ji23) ≤ (wrap64 (x6_1 + 4))
                    · rw [if_pos c25] at H
                      have c25b0 := eq_true c25
                      have c25b1 : decide ((ji23) ≤ (wrap64 (x6_1 + 4))) = true := decide_eq_true c25
                      by_cases c26 : (wrap64 (x6_1 + 4)) ≤ (a0.size : Int)
                      · rw [if_pos c26] at H
                        have c26b0 := eq_true c26
                        have c26b1 : decide ((wrap64 (x6_1 + 4)) ≤ (a0.size : Int)) = true := decide_eq_true c26
                        replace H := Option.bind_eq_some_iff.mp H
                        obtain ⟨⟨t120, t121⟩, A270, H⟩ := H
                        replace H : (if t121.isNone = true then (if x5_1.length < 140737488355328 then (lex_text.l0 kj15 a0 (x5_1 ++ [(t120) % 256]) (wrap64 ((wrap64 (x6_1 + 3)) + 1))) else (none)) else (some (0, (⟨#[]⟩ : ByteArray), false))) = some (r1, r2, r3) := H
                        have A27 := Aside0.mk A270
                        clear A270
                        rcases t121 with _ | q122
                        · have H1 : (if x5_1.length < 140737488355328 then (lex_text.l0 kj15 a0 (x5_1 ++ [(t120) % 256]) (wrap64 ((wrap64 (x6_1 + 3)) + 1))) else (none)) = some (r1, r2, r3) := by rw [if_pos (show (none : Option Int).isNone = true by rfl)] at H; exact H
                          clear H
                          have H := H1
                          clear H1
                          try simp only [errW_none, errW_some]
                          by_cases c28 : x5_1.length < 140737488355328
                          · rw [if_pos c28] at H
                            have LMc28 := Aside0.mk c28
                            clear c28
                            obtain ⟨y123, hy123⟩ : ∃ y_ : List Int, y_ = (x5_1 ++ [(t120) % 256]) := ⟨_, rfl⟩
                            replace H : (lex_text.l0 kj15 a0 y123 (wrap64 ((wrap64 (x6_1 + 3)) + 1))) = some (r1, r2, r3) := by first | (rw [hy123]; with_reducible exact H) | (have H2_ := (Option.bind_some _ _).symm.trans H; rw [hy123]; with_reducible exact H2_) | (have H2_ := (Option.bind_some _ _).symm.trans H; with_reducible exact H2_) | with_reducible exact H | (rw [hy123]; exact H) | exact H
                            have Ny123 := Aside0.mk hy123
                            clear hy123
                            have H' := Aside0.mk H
                            clear H
                            go_wp2_with (first | ((with_reducible refine gate_callee (f := 40) rfl ?_); refine goesL_ (some 68) rfl rfl Tryd.func40 (by kernel_rfl) rfl #[.string (a0.extract ((ji23) : Int).toNat ((wrap64 (x6_1 + 4)) : Int).toNat), .int .i64 16, .int .i64 8] rfl (by (try simp only [List.map_toArray, List.map_cons, List.map_nil]); first | done | (simp only [hji23]; rfl) | rfl | (simp only [List.length_drop, List.length_take]; rfl)) ?_; (with_reducible refine (strconv_ParseUint.calls (a0.extract ((ji23) : Int).toNat ((wrap64 (x6_1 + 4)) : Int).toNat) 16 8 t120 none _ A27.out (Tabs.below HT.out (by repeat (first | (with_reducible first | exact HB.out | apply below_alloc | apply pw_below_drewN | apply below_drew1) | exact HB.out)))).mono ?_); rintro e w29 ⟨⟨ev_, hev_, rfl⟩, hb⟩; obtain rfl : ev_ = Value.nilIface := hev_; refine ⟨_, rfl, ?_⟩; have n0_ := Aside0.mk (Kd.R_below (by (with_reducible repeat (first | apply Kd.R_alloc | apply Kd.R_drewN | apply Kd.R_drew)); exact HO_5.out) hb); have n1_ := Aside0.mk (below_step (by repeat (first | (with_reducible first | exact HB.out | apply below_alloc | apply pw_below_drewN | apply below_drew1) | exact HB.out)) hb); clear HO_5; clear HB; have HO_5 := n0_; have HB := n1_; clear n0_ n1_; (try clear hb); (try clear hb2); (try clear hk); (try clear hi); (try simp only [errW_none, errW_some])) | ((with_reducible refine gate_builtin (b := .append) (xs := #[.tmp 73, .tmp 76]) rfl ?_); (try (refine gate_guard (by rfl) ?_; dsimp only)); at_builtin; refine Kd.R_append (Kd.int .u8) (w0 := w) w.heap.size rfl (.tmp 73) (.tmp 76) 62 5 (.int .u8 0) 1 rfl Tryd.underlying62 info5 rfl (by decide) (by omega) u5 x5_1 ((t120) % 256) [.int .u8 ((t120) % 256)] (fun _ => True) (fun _ => False) rfl rfl ?aP (fun _ hk => hk.elim) ?aF ?aO ?aB ?aS ?aL ?_; (case aP => exact rfl); (case aB => exact (by repeat (first | (with_reducible first | exact HB.out | apply below_alloc | apply pw_below_drewN | apply below_drew1) | exact HB.out))); (case aF => exact (fun _ _ => trivial)); (case aO => exact (by (with_reducible repeat (first | apply Kd.R_alloc | apply Kd.R_drewN | apply Kd.R_drew)); exact HO_5.out)); (case aS => exact (below_size (by repeat (first | (with_reducible first | exact HB.out | apply below_alloc | apply pw_below_drewN | apply below_drew1) | exact HB.out)))); (case aL => have := LMc28.out; omega); intro v124 w30 ho hb hg hat; rw [← Ny123.out] at ho; have n0_ := Aside0.mk (hb); have n1_ := Aside0.mk (ho); clear HB; clear HO_5; have HB := n0_; have HO125 := n1_; clear n0_ n1_; clear ho hb hg hat))
                            go_roundg kj15
                            case measure => have := HK1.out; have := HJ15.out; omega
                            case rel => exact ⟨(y123), (wrap64 ((wrap64 (x6_1 + 3)) + 1)), (by first | rfl | (simp; done) | (simp [*]; done)), H', ⟨by have := HK1.out; have := HJ15.out; omega⟩, ⟨by (with_reducible repeat (first | apply Kd.R_alloc | apply Kd.R_drewN | apply Kd.R_drew)); exact HO125.out⟩, ⟨by repeat (first | (with_reducible first | exact HB.out | apply below_alloc | apply pw_below_drewN | apply below_drew1) | exact HB.out)⟩⟩
                          · rw [if_neg c28] at H
                            exact absurd H (by simp)
                        · have H1 : (some (0, (⟨#[]⟩ : ByteArray), false)) = some (r1, r2, r3) := by rw [if_neg (show ¬ (some q122).isNone = true by simp)] at H; exact H
                          clear H
                          have H := H1
                          clear H1
                          try simp only [errW_none, errW_some]
                          simp only [Option.some.injEq, Prod.mk.injEq] at H
                          obtain ⟨rfl, rfl, rfl⟩ := H
                          go_wp2_with (first | ((with_reducible refine gate_callee (f := 40) rfl ?_); refine goesL_ (some 68) rfl rfl Tryd.func40 (by kernel_rfl) rfl #[.string (a0.extract ((ji23) : Int).toNat ((wrap64 (x6_1 + 4)) : Int).toNat), .int .i64 16, .int .i64 8] rfl (by (try simp only [List.map_toArray, List.map_cons, List.map_nil]); first | done | (simp only [hji23]; rfl) | rfl | (simp only [List.length_drop, List.length_take]; rfl)) ?_; (with_reducible refine (strconv_ParseUint.calls (a0.extract ((ji23) : Int).toNat ((wrap64 (x6_1 + 4)) : Int).toNat) 16 8 t120 (some q122) _ A27.out (Tabs.below HT.out (by repeat (first | (with_reducible first | exact HB.out | apply below_alloc | apply pw_below_drewN | apply below_drew1) | exact HB.out)))).mono ?_); rintro e w31 ⟨⟨ev_, hev_, rfl⟩, hb⟩; obtain ⟨N_, rfl⟩ : ∃ N, ev_ = Value.iface 80 (.pointer (some ⟨N, 0, none⟩)) := hev_; refine ⟨_, rfl, ?_⟩; have n0_ := Aside0.mk (Kd.R_below (by (with_reducible repeat (first | apply Kd.R_alloc | apply Kd.R_drewN | apply Kd.R_drew)); exact HO_5.out) hb); have n1_ := Aside0.mk (below_step (by repeat (first | (with_reducible first | exact HB.out | apply below_alloc | apply pw_below_drewN | apply below_drew1) | exact HB.out)) hb); clear HO_5; clear HB; have HO_5 := n0_; have HB := n1_; clear n0_ n1_; (try clear hb); (try clear hb2); (try clear hk); (try clear hi); (try simp only [errW_none, errW_some])))
                          go_ret3
                          exact ⟨by first | rfl | (simp [errW_none, errW_some] <;> rfl) | (simp only [← hji23]; first | rfl | (simp [errW_none, errW_some] <;> rfl)) | (simp [*, errW_none, errW_some] <;> rfl), by repeat (first | (with_reducible first | exact HB.out | apply below_alloc | apply pw_below_drewN | apply below_drew1) | exact HB.out)⟩
                      · rw [if_neg c26] at H
                        exact absurd H (by simp)
                    · rw [if_neg c25] at H
                      exact absurd H (by simp)
                  · rw [if_neg c24] at H
                    exact absurd H (by simp)
                · replace c22 := Bool.eq_false_iff.mpr c22
                  subst c22
                  have H1 : (if (bt a0 x6_1) = 92 then (if (wrap64 (x6_1 + 1)) < (a0.size : Int) then (if 0 ≤ (wrap64 (x6_1 + 1)) then (if x5_1.length < 140737488355328 then (lex_text.l0 kj15 a0 (x5_1 ++ [bt a0 (wrap64 (x6_1 + 1))]) (wrap64 ((wrap64 (x6_1 + 1)) + 1))) else (none)) else (none)) else (if x5_1.length < 140737488355328 then (lex_text.l0 kj15 a0 (x5_1 ++ [(bt a0 x6_1)]) (wrap64 (x6_1 + 1))) else (none))) else (if x5_1.length < 140737488355328 then (lex_text.l0 kj15 a0 (x5_1 ++ [(bt a0 x6_1)]) (wrap64 (x6_1 + 1))) else (none))) = some (r1, r2, r3) := by rw [if_neg (show ¬ (false = true) by decide)] at H; exact H
                  clear H
                  have H := H1
                  clear H1
                  by_cases c32 : (bt a0 x6_1) = 92
                  · rw [if_pos c32] at H
                    have c32b0 : ((bt a0 x6_1) == 92) = true := beq_iff_eq.mpr c32
                    have c32b1 : ((bt a0 x6_1) != 92) = false := bne_eq_false_iff_eq.mpr c32
                    clear c32
                    by_cases c33 : (wrap64 (x6_1 + 1)) < (a0.size : Int)
                    · rw [if_pos c33] at H
                      have c33b0 : decide ((wrap64 (x6_1 + 1)) < (a0.size : Int)) = true := decide_eq_true c33
                      clear c33
                      obtain ⟨ji34, hji34⟩ : ∃ j_ : Int, (wrap64 (x6_1 + 1)) = j_ := ⟨_, rfl⟩
                      replace H : (if 0 ≤ (ji34) then (if x5_1.length < 140737488355328 then (lex_text.l0 kj15 a0 (x5_1 ++ [bt a0 (ji34)]) (wrap64 ((ji34) + 1))) else (none)) else (none)) = some (r1, r2, r3) := by first | (rw [hji34] at H; exact H) | (simp only [hji34] at H ⊢; exact H)
                      (try rw [hji34] at c33b0)
                      have hji34w : (IntKind.i64.wrap (x6_1 + 1)) = ji34 := (i64_w _).trans hji34
                      by_cases c35 : 0 ≤ (ji34)
                      · rw [if_pos c35] at H
                        have c35b0 : decide (0 ≤ (ji34)) = true := decide_eq_true c35
                        clear c35
                        by_cases c37 : x5_1.length < 140737488355328
                        · rw [if_pos c37] at H
                          have LMc37 := Aside0.mk c37
                          clear c37
                          obtain ⟨y126, hy126⟩ : ∃ y_ : List Int, y_ = (x5_1 ++ [bt a0 (ji34)]) := ⟨_, rfl⟩
                          replace H : (lex_text.l0 kj15 a0 y126 (wrap64 ((ji34) + 1))) = some (r1, r2, r3) := by first | (rw [hy126]; with_reducible exact H) | (have H2_ := (Option.bind_some _ _).symm.trans H; rw [hy126]; with_reducible exact H2_) | (have H2_ := (Option.bind_some _ _).symm.trans H; with_reducible exact H2_) | with_reducible exact H | (rw [hy126]; exact H) | exact H
                          have Ny126 := Aside0.mk hy126
                          clear hy126
                          have H' := Aside0.mk H
                          clear H
                          have p36 : 0 ≤ ((ji34) : Int) := of_decide_eq_true (by first | (with_reducible assumption) | assumption)
                          have q36 : (ji34) < (a0.size : Int) := of_decide_eq_true (by first | (with_reducible assumption) | assumption)
                          have hx36 := bt_at a0 (ji34)
                          replace p36 := eq_true p36
                          replace q36 := eq_true q36
                          go_wp2_with (first | ((with_reducible refine gate_builtin (b := .append) (xs := #[.tmp 92, .tmp 96]) rfl ?_); (try (refine gate_guard (by rfl) ?_; dsimp only)); at_builtin; refine Kd.R_append (Kd.int .u8) (w0 := w) w.heap.size rfl (.tmp 92) (.tmp 96) 62 5 (.int .u8 0) 1 rfl Tryd.underlying62 info5 rfl (by decide) (by omega) u5 x5_1 (bt a0 (ji34)) [.int .u8 (bt a0 (ji34))] (fun _ => True) (fun _ => False) rfl rfl ?aP (fun _ hk => hk.elim) ?aF ?aO ?aB ?aS ?aL ?_; (case aP => exact rfl); (case aB => exact (by repeat (first | (with_reducible first | exact HB.out | apply below_alloc | apply pw_below_drewN | apply below_drew1) | exact HB.out))); (case aF => exact (fun _ _ => trivial)); (case aO => exact (by (with_reducible repeat (first | apply Kd.R_alloc | apply Kd.R_drewN | apply Kd.R_drew)); exact HO_5.out)); (case aS => exact (below_size (by repeat (first | (with_reducible first | exact HB.out | apply below_alloc | apply pw_below_drewN | apply below_drew1) | exact HB.out)))); (case aL => have := LMc37.out; omega); intro v127 w38 ho hb hg hat; rw [← Ny126.out] at ho; have n0_ := Aside0.mk (hb); have n1_ := Aside0.mk (ho); clear HB; clear HO_5; have HB := n0_; have HO128 := n1_; clear n0_ n1_; clear ho hb hg hat))
                          go_roundg kj15
                          case measure => have := HK1.out; have := HJ15.out; omega
                          case rel => exact ⟨(y126), (wrap64 ((ji34) + 1)), (by first | rfl | (simp; done) | (simp only [← hji34] <;> (first | rfl | simp)) | (simp [*]; done)), H', ⟨by have := HK1.out; have := HJ15.out; omega⟩, ⟨by (with_reducible repeat (first | apply Kd.R_alloc | apply Kd.R_drewN | apply Kd.R_drew)); exact HO128.out⟩, ⟨by repeat (first | (with_reducible first | exact HB.out | apply below_alloc | apply pw_below_drewN | apply below_drew1) | exact HB.out)⟩⟩
                        · rw [if_neg c37] at H
                          exact absurd H (by simp)
                      · rw [if_neg c35] at H
                        exact absurd H (by simp)
                    · rw [if_neg c33] at H
                      have c33b0 : decide ((wrap64 (x6_1 + 1)) < (a0.size : Int)) = false := decide_eq_false c33
                      clear c33
                      by_cases c39 : x5_1.length < 140737488355328
                      · rw [if_pos c39] at H
                        have LMc39 := Aside0.mk c39
                        clear c39
                        obtain ⟨y129, hy129⟩ : ∃ y_ : List Int, y_ = (x5_1 ++ [(bt a0 x6_1)]) := ⟨_, rfl⟩
                        replace H : (lex_text.l0 kj15 a0 y129 (wrap64 (x6_1 + 1))) = some (r1, r2, r3) := by first | (rw [hy129]; with_reducible exact H) | (have H2_ := (Option.bind_some _ _).symm.trans H; rw [hy129]; with_reducible exact H2_) | (have H2_ := (Option.bind_some _ _).symm.trans H; with_reducible exact H2_) | with_reducible exact H | (rw [hy129]; exact H) | exact H
                        have Ny129 := Aside0.mk hy129
                        clear hy129
                        have H' := Aside0.mk H
                        clear H
                        go_wp2_with (first | ((with_reducible refine gate_builtin (b := .append) (xs := #[.tmp 20, .tmp 22]) rfl ?_); (try (refine gate_guard (by rfl) ?_; dsimp only)); at_builtin; refine Kd.R_append (Kd.int .u8) (w0 := w) w.heap.size rfl (.tmp 20) (.tmp 22) 62 5 (.int .u8 0) 1 rfl Tryd.underlying62 info5 rfl (by decide) (by omega) u5 x5_1 (bt a0 x6_1) [.int .u8 (bt a0 x6_1)] (fun _ => True) (fun _ => False) rfl rfl ?aP (fun _ hk => hk.elim) ?aF ?aO ?aB ?aS ?aL ?_; (case aP => exact rfl); (case aB => exact (by repeat (first | (with_reducible first | exact HB.out | apply below_alloc | apply pw_below_drewN | apply below_drew1) | exact HB.out))); (case aF => exact (fun _ _ => trivial)); (case aO => exact (by (with_reducible repeat (first | apply Kd.R_alloc | apply Kd.R_drewN | apply Kd.R_drew)); exact HO_5.out)); (case aS => exact (below_size (by repeat (first | (with_reducible first | exact HB.out | apply below_alloc | apply pw_below_drewN | apply below_drew1) | exact HB.out)))); (case aL => have := LMc39.out; omega); intro v130 w40 ho hb hg hat; rw [← Ny129.out] at ho; have n0_ := Aside0.mk (hb); have n1_ := Aside0.mk (ho); clear HB; clear HO_5; have HB := n0_; have HO131 := n1_; clear n0_ n1_; clear ho hb hg hat))
                        go_roundg kj15
                        case measure => have := HK1.out; have := HJ15.out; omega
                        case rel => exact ⟨(y129), (wrap64 (x6_1 + 1)), (by first | rfl | (simp; done) | (simp [*]; done)), H', ⟨by have := HK1.out; have := HJ15.out; omega⟩, ⟨by (with_reducible repeat (first | apply Kd.R_alloc | apply Kd.R_drewN | apply Kd.R_drew)); exact HO131.out⟩, ⟨by repeat (first | (with_reducible first | exact HB.out | apply below_alloc | apply pw_below_drewN | apply below_drew1) | exact HB.out)⟩⟩
                      · rw [if_neg c39] at H
                        exact absurd H (by simp)
                  · rw [if_neg c32] at H
                    have c32b0 : ((bt a0 x6_1) == 92) = false := beq_eq_false_iff_ne.mpr c32
                    have c32b1 : ((bt a0 x6_1) != 92) = true := bne_iff_ne.mpr c32
                    by_cases c41 : x5_1.length < 140737488355328
                    · rw [if_pos c41] at H
                      have LMc41 := Aside0.mk c41
                      clear c41
                      obtain ⟨y132, hy132⟩ : ∃ y_ : List Int, y_ = (x5_1 ++ [(bt a0 x6_1)]) := ⟨_, rfl⟩
                      replace H : (lex_text.l0 kj15 a0 y132 (wrap64 (x6_1 + 1))) = some (r1, r2, r3) := by first | (rw [hy132]; with_reducible exact H) | (have H2_ := (Option.bind_some _ _).symm.trans H; rw [hy132]; with_reducible exact H2_) | (have H2_ := (Option.bind_some _ _).symm.trans H; with_reducible exact H2_) | with_reducible exact H | (rw [hy132]; exact H) | exact H
                      have Ny132 := Aside0.mk hy132
                      clear hy132
                      have H' := Aside0.mk H
                      clear H
                      go_wp2_with (first | ((with_reducible refine gate_builtin (b := .append) (xs := #[.tmp 20, .tmp 22]) rfl ?_); (try (refine gate_guard (by rfl) ?_; dsimp only)); at_builtin; refine Kd.R_append (Kd.int .u8) (w0 := w) w.heap.size rfl (.tmp 20) (.tmp 22) 62 5 (.int .u8 0) 1 rfl Tryd.underlying62 info5 rfl (by decide) (by omega) u5 x5_1 (bt a0 x6_1) [.int .u8 (bt a0 x6_1)] (fun _ => True) (fun _ => False) rfl rfl ?aP (fun _ hk => hk.elim) ?aF ?aO ?aB ?aS ?aL ?_; (case aP => exact rfl); (case aB => exact (by repeat (first | (with_reducible first | exact HB.out | apply below_alloc | apply pw_below_drewN | apply below_drew1) | exact HB.out))); (case aF => exact (fun _ _ => trivial)); (case aO => exact (by (with_reducible repeat (first | apply Kd.R_alloc | apply Kd.R_drewN | apply Kd.R_drew)); exact HO_5.out)); (case aS => exact (below_size (by repeat (first | (with_reducible first | exact HB.out | apply below_alloc | apply pw_below_drewN | apply below_drew1) | exact HB.out)))); (case aL => have := LMc41.out; omega); intro v133 w42 ho hb hg hat; rw [← Ny132.out] at ho; have n0_ := Aside0.mk (hb); have n1_ := Aside0.mk (ho); clear HB; clear HO_5; have HB := n0_; have HO134 := n1_; clear n0_ n1_; clear ho hb hg hat))
                      go_roundg kj15
                      case measure => have := HK1.out; have := HJ15.out; omega
                      case rel => exact ⟨(y132), (wrap64 (x6_1 + 1)), (by first | rfl | (simp; done) | (simp [*]; done)), H', ⟨by have := HK1.out; have := HJ15.out; omega⟩, ⟨by (with_reducible repeat (first | apply Kd.R_alloc | apply Kd.R_drewN | apply Kd.R_drew)); exact HO134.out⟩, ⟨by repeat (first | (with_reducible first | exact HB.out | apply below_alloc | apply pw_below_drewN | apply below_drew1) | exact HB.out)⟩⟩
                    · rw [if_neg c41] at H
                      exact absurd H (by simp)
        · rw [if_neg c3] at H
          exact absurd H (by simp)
      · rw [if_neg c2] at H
        have c2b0 : decide (x6_1 < (a0.size : Int)) = false := decide_eq_false c2
        clear c2
        simp only [Option.some.injEq, Prod.mk.injEq] at H
        obtain ⟨rfl, rfl, rfl⟩ := H
        go_wp2
        go_ret3
        exact ⟨by first | rfl | (simp [errW_none, errW_some] <;> rfl) | (simp [*, errW_none, errW_some] <;> rfl), by repeat (first | (with_reducible first | exact HB.out | apply below_alloc | apply pw_below_drewN | apply below_drew1) | exact HB.out)⟩
end Go.Proofs.YtdjcechogbcdnaaDoor.XL
