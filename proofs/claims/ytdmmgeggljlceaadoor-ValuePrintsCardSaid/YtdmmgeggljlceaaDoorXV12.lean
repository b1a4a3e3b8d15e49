/- What functions of the program and of Go's library answer: each as a plain Lean function, with its walk (laid by wip/xprint.py, a program of this session, over the kit's print). Conditions: those that each statement names. -/
import Derived.Test.YtdmmgeggljlceaaDoorXV0
namespace Go.Proofs.YtdmmgeggljlceaaDoor.XV
open Go.RowKit Go.Proofs.YtdmmgeggljlceaaDoorW.PrintWords Go.Proofs.YtdmmgeggljlceaaDoorW.PrintLast Go.Proofs.YtdmmgeggljlceaaDoorW.PrintMore
attribute [local go_sem] max2_int min2_int max_two min_two max_three min_three max_four min_four   -- for this text's walks alone
set_option linter.unusedVariables false
set_option linter.unusedSimpArgs false

/-! ### switchyardref06_Decimal: function 32 (given) -/
theorem dc_lit_string (W : World) (x : Int) : (convert 52 9 (.slice (some ⟨W.heap.size, 0, none⟩) 1 1)).run Tryd.prog (W.alloc (.cells #[.int .u8 x] 5)) = .ok (.string (strOfNums [x])) (W.alloc (.cells #[.int .u8 x] 5)) := by
  refine own_string (base := W.heap.size) (e' := 5) (n := 1) Tryd.underlying52 Tryd.underlying5 Tryd.underlying9 ⟨rfl, .inr ⟨W.heap.size, 1, #[.int .u8 x], rfl, Nat.le_refl _, heap_alloc_new W _, by simp, by simp [maxLen], by simp, by simp [nums]⟩⟩
theorem dig_str (n : Nat) : strOfNums [48 + (n : Int) % 10] = ⟨#[UInt8.ofNat (48 + n % 10)]⟩ := by
  have h : (48 + (n : Int) % 10).toNat = 48 + n % 10 := by omega
  show (⟨([48 + (n : Int) % 10].map fun n => UInt8.ofNat n.toNat).toArray⟩ : ByteArray) = _
  rw [List.map_singleton, h]
theorem dec_low (n : Nat) (h : n < 10) : Ending.returned (.string (strOfNums [48 + (n : Int) % 10])) = .returned (.string ⟨(Lib.decDigits n).toArray⟩) := by
  rw [dig_str, Lib.decDigits, dif_pos h]
  have : n % 10 = n := by omega
  rw [this]
theorem dec_len (n : Nat) : (Lib.decDigits n).length ≤ n + 1 := by
  induction n using Nat.strongRecOn with
  | _ n ih =>
    rw [Lib.decDigits]
    split
    · simp
    · have := ih (n / 10) (by omega)
      simp only [List.length_append, List.length_singleton]
      omega
theorem dc_cat_mk (a b : List UInt8) : (⟨a.toArray⟩ : ByteArray) ++ ⟨b.toArray⟩ = ⟨(a ++ b).toArray⟩ := by
  apply ByteArray.ext
  simp
theorem dec_high (n : Nat) (h : ¬ n < 10) : Ending.returned (.string ((⟨(Lib.decDigits (n / 10)).toArray⟩ : ByteArray) ++ strOfNums [48 + (n : Int) % 10])) = .returned (.string ⟨(Lib.decDigits n).toArray⟩) := by
  rw [dig_str, Lib.decDigits.eq_def n, dif_neg h, ← dc_cat_mk]
theorem dec_pos (n : Nat) : ∀ (hn : (n : Int) ≤ 9223372036854775807) (w : World), Calls Tryd.prog 32 #[.int .i64 (n : Int)] w fun e w' => e = .returned (.string ⟨(Lib.decDigits n).toArray⟩) ∧ Below w.heap.size w w' := by
  induction n using Nat.strongRecOn with
  | _ n ih =>
  intro hn w
  have h0 : (0 : Int) ≤ (n : Int) := by omega
  have hl := fun (W : World) (x : Int) => dc_lit_string W x
  by_cases h10 : n < 10
  · go_enter Tryd.func32, Tryd.ntmps32
    go_wp2
    go_ret
    exact ⟨dec_low n h10, below_alloc (Below.refl _ _) _⟩
  · have H := Lib.hid (ih (n / 10) (by omega) (by omega))
    have hlen : ¬ 9223372036854775807 < (Lib.decDigits (n / 10)).length + (strOfNums [48 + (n : Int) % 10]).size := by
      rw [dig_str]
      have := dec_len (n / 10)
      show ¬ 9223372036854775807 < _ + 1
      omega
    clear ih
    go_enter Tryd.func32, Tryd.ntmps32
    go_wp2_with fail
    have e1 : ((n : Int) / 10) = ((n / 10 : Nat) : Int) := by omega
    rw [e1]
    clear e1
    refine (H.out _).mono ?_
    rintro e w' ⟨rfl, hb⟩
    have HB := Aside0.mk hb
    clear hb
    go_wp2
    go_ret
    exact ⟨dec_high n h10, below_step (below_alloc (Below.refl _ _) _) HB.out⟩
theorem dc_str_eq {a b : ByteArray} (h : a = b) : Ending.returned (.string a) = .returned (.string b) := by rw [h]
theorem itoa_neg {n : Int} {q r : Nat} (h0 : n < 0) (hq : q = (-n).toNat / 10) (hr : r = (-n).toNat % 10) : Lib.itoa n = 45 :: ((if q = 0 then [] else Lib.decDigits q) ++ Lib.decDigits r) := by
  have hr10 : r < 10 := by omega
  unfold Lib.itoa
  rw [if_pos h0, Lib.decDigits.eq_def n.natAbs, Lib.decDigits.eq_def r, dif_pos hr10]
  have hna : n.natAbs = 10 * q + r := by omega
  by_cases hz : q = 0
  · rw [if_pos hz, dif_pos (by omega), hna]
    simp [hz]
  · rw [if_neg hz, dif_neg (by omega), hna]
    have e1 : (10 * q + r) / 10 = q := by omega
    have e2 : (10 * q + r) % 10 = r := by omega
    rw [e1, e2]
theorem dec_neg (n : Int) (h0 : n < 0) (h1 : -9223372036854775808 ≤ n) (w : World) : Calls Tryd.prog 32 #[.int .i64 n] w fun e w' => e = .returned (.string ⟨(Lib.itoa n).toArray⟩) ∧ Below w.heap.size w w' := by
  obtain ⟨q, hq⟩ : ∃ q : Nat, q = (-n).toNat / 10 := ⟨_, rfl⟩
  obtain ⟨r, hr⟩ : ∃ r : Nat, r = (-n).toNat % 10 := ⟨_, rfl⟩
  have tq : Int.tdiv n 10 = -(q : Int) := by
    have e : n = -(-n) := by omega
    rw [e, Int.neg_tdiv, Int.tdiv_eq_ediv_of_nonneg (by omega)]; omega
  have tr : Int.tmod n 10 = -(r : Int) := by
    have e : n = -(-n) := by omega
    rw [e, Int.neg_tmod, Int.tmod_eq_emod_of_nonneg (by omega)]; omega
  have hr9 : (r : Int) ≤ 9 := by omega
  have hqm : (q : Int) ≤ 922337203685477580 := by omega
  have HE : Aside0 (Lib.itoa n = 45 :: ((if q = 0 then [] else Lib.decDigits q) ++ Lib.decDigits r)) := ⟨itoa_neg h0 hq hr⟩
  have hR := Lib.hid (dec_pos r (by omega))
  have hQ := Lib.hid (dec_pos q (by omega))
  have l1 := dec_len r
  have l2 := dec_len q
  clear hr
  by_cases hz : q = 0
  · have HF : Aside0 (Lib.itoa n = 45 :: Lib.decDigits r) := ⟨by rw [HE.out, if_pos hz]; rfl⟩
    clear HE
    subst hz
    clear hq hQ l2 hqm
    have tq' : Int.tdiv n 10 = 0 := tq
    clear tq
    have hlen : ¬ 9223372036854775807 < ((⟨#[45]⟩ : ByteArray) ++ ⟨#[]⟩).size + (Lib.decDigits r).length := by
      show ¬ 9223372036854775807 < 1 + _
      omega
    clear l1
    go_enter Tryd.func32, Tryd.ntmps32
    go_wp2_with fail
    refine (hR.out _).mono ?_
    rintro e w' ⟨rfl, hb⟩
    have HB := Aside0.mk hb
    clear hb
    go_wp2
    go_ret
    exact ⟨by rw [HF.out]; exact dc_str_eq (by rw [show (⟨#[45]⟩ : ByteArray) ++ ⟨#[]⟩ = ⟨([45] : List UInt8).toArray⟩ from rfl, dc_cat_mk]; rfl), HB.out⟩
  · have HF : Aside0 (Lib.itoa n = 45 :: (Lib.decDigits q ++ Lib.decDigits r)) := ⟨by rw [HE.out, if_neg hz]⟩
    clear HE
    have hq0 : ¬ ((q : Int) = 0) := by omega
    have hlen1 : ¬ 9223372036854775807 < (⟨#[45]⟩ : ByteArray).size + (Lib.decDigits q).length := by
      show ¬ 9223372036854775807 < 1 + _
      omega
    have hlen2 : ¬ 9223372036854775807 < ((⟨#[45]⟩ : ByteArray) ++ ⟨(Lib.decDigits q).toArray⟩).size + (Lib.decDigits r).length := by
      rw [ByteArray.size_append]
      show ¬ 9223372036854775807 < 1 + (Lib.decDigits q).toArray.size + _
      rw [List.size_toArray]
      omega
    have hlen3 : ¬ 9223372036854775807 < 1 + (Lib.decDigits q).length := by omega
    have hlen4 : ¬ 9223372036854775807 < 1 + (Lib.decDigits q).length + (Lib.decDigits r).length := by omega
    clear l1 l2 hq
    go_enter Tryd.func32, Tryd.ntmps32
    go_wp2_with fail
    refine (hQ.out _).mono ?_
    rintro e w1 ⟨rfl, hb1⟩
    have HB1 := Aside0.mk hb1
    clear hb1
    go_wp2_with fail
    refine (hR.out _).mono ?_
    rintro e w' ⟨rfl, hb⟩
    have HB := Aside0.mk hb
    clear hb
    go_wp2
    go_ret
    exact ⟨by rw [HF.out]; exact dc_str_eq (by rw [show (⟨#[45]⟩ : ByteArray) = ⟨([45] : List UInt8).toArray⟩ from rfl, dc_cat_mk, dc_cat_mk]; rfl), below_step HB1.out HB.out⟩
def switchyardref06_Decimal.f (a0 : Int) : Option ByteArray := if -9223372036854775808 ≤ a0 then (if a0 ≤ 9223372036854775807 then some ⟨(Lib.itoa a0).toArray⟩ else none) else none
theorem switchyardref06_Decimal.calls (a0 : Int) (r : ByteArray) (w : World) (h : switchyardref06_Decimal.f a0 = some r) :
    Calls Tryd.prog 32 #[.int .i64 a0] w fun e w' => e = .returned (.string r) ∧ Below w.heap.size w w' := by
  unfold switchyardref06_Decimal.f at h
  by_cases h1 : -9223372036854775808 ≤ a0
  · rw [if_pos h1] at h
    by_cases h2 : a0 ≤ 9223372036854775807
    · rw [if_pos h2] at h
      obtain rfl := Option.some.inj h
      by_cases h0 : a0 < 0
      · exact dec_neg a0 h0 h1 w
      · obtain ⟨n, rfl⟩ := Int.eq_ofNat_of_zero_le (show 0 ≤ a0 by omega)
        have e : Lib.itoa (n : Int) = Lib.decDigits n := by unfold Lib.itoa; rw [if_neg h0]; rfl
        rw [e]
        exact dec_pos n h2 w
    · rw [if_neg h2] at h; cases h
  · rw [if_neg h1] at h; cases h

end Go.Proofs.YtdmmgeggljlceaaDoor.XV
