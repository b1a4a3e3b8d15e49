/- Layer 20, in plain words: what the printed functions answer. Conditions: lists of fewer than 2^62 numbers. -/
import Derived.Test.YtmbojmmboolagaaXS
namespace Go.Proofs.Ytmbojmmboolagaa.XS
open Go.RowKit Go.Proofs.YtmbojmmboolagaaW.PrintWords Go.Proofs.YtmbojmmboolagaaW.PrintLast Go.Proofs.YtmbojmmboolagaaW.PrintMore
set_option linter.unusedVariables false
set_option linter.unusedSimpArgs false
theorem Ev.pos {α : Type} {c : Prop} [Decidable c] {f g : Nat → Option α} {r : α} (hc : c) (h : Ev f r) : Ev (fun k => if c then f k else g k) r := Ev.congr (fun _ => if_pos hc) h
theorem Ev.neg {α : Type} {c : Prop} [Decidable c] {f g : Nat → Option α} {r : α} (hc : ¬ c) (h : Ev g r) : Ev (fun k => if c then f k else g k) r := Ev.congr (fun _ => if_neg hc) h
theorem Ev.val {α : Type} {r r' : α} (h : r = r') : Ev (fun _ => some r) r' := h ▸ Ev.now r
theorem Ev.val' {α : Type} {o : Option α} {r : α} (h : o = some r) : Ev (fun _ => o) r := h ▸ Ev.now r
theorem wr_succ {i n : Nat} (h : i < n) (hn : n ≤ 9223372036854775807) : wrap64 ((i : Int) + 1) = ((i + 1 : Nat) : Int) := by
  unfold wrap64; omega
theorem rd_at {l : List Int} {i : Nat} (h : i < l.length) : rd l (i : Int) = l[i] := by
  unfold rd; simp [h]
def Rise (l : List Int) : Prop := l.Pairwise (· < ·)
instance (l : List Int) : Decidable (Rise l) := by unfold Rise; exact inferInstance
theorem rise_at {l : List Int} : Rise l ↔ ∀ i j (hi : i < l.length) (hj : j < l.length), i < j → l[i] < l[j] := List.pairwise_iff_getElem
/-! Right -/
def riseTo (l : List Int) (i : Nat) : Prop := ∀ j, 0 < j → j < i → ∀ h : j < l.length, l[j - 1]'(by omega) < l[j]
theorem rise_step {l : List Int} (h : riseTo l l.length) : Rise l := by
  rw [rise_at]
  intro i j hi hj hij
  induction j with
  | zero => omega
  | succ j ih =>
    have h1 := h (j + 1) (by omega) hj hj
    simp only [Nat.add_sub_cancel] at h1
    by_cases e : i = j
    · subst e; exact h1
    · exact Int.lt_trans (ih (by omega) (by omega)) h1
theorem right_loop (l : List Int) (hl : l.length ≤ 4611686018427387904) : ∀ d i : Nat, i + d = l.length → riseTo l i → Ev (fun k => seen_Right.l0 k l (l.length : Int) (i : Int)) (decide (Rise l)) := by
  intro d
  induction d with
  | zero =>
    intro i hi hr
    refine Ev.step (fun k => by simp only [seen_Right.l0]; rfl) (Ev.neg (by omega) (Ev.val ?_))
    have e : i = l.length := by omega
    subst e
    rw [eq_comm, decide_eq_true_eq]; exact rise_step hr
  | succ d ih =>
    intro i hi hr
    have hlt : i < l.length := by omega
    refine Ev.step (fun k => by simp only [seen_Right.l0]; rfl) (Ev.pos (by omega) ?_)
    rw [wr_succ hlt (by omega)]
    by_cases h0 : i = 0
    · subst h0
      exact Ev.neg (by omega) (ih 1 (by omega) (fun j h1 h2 => by omega))
    · have e : wrap64 ((i : Int) - 1) = ((i - 1 : Nat) : Int) := by unfold wrap64; omega
      rw [e]
      refine Ev.pos (by omega) (Ev.pos (by omega) (Ev.pos (by omega) (Ev.pos (by omega) (Ev.pos (by omega) ?_))))
      rw [rd_at (show i - 1 < l.length by omega), rd_at hlt]
      by_cases h : l[i - 1] ≥ l[i]
      · refine Ev.pos h (Ev.val ?_)
        rw [eq_comm, decide_eq_false_iff_not, rise_at]
        intro hR
        have := hR (i - 1) i (by omega) hlt (by omega)
        omega
      · refine Ev.neg h (ih (i + 1) (by omega) (fun j h1 h2 hj => ?_))
        by_cases e : j = i
        · subst e; omega
        · exact hr j h1 (by omega) hj
theorem right_ev (l : List Int) (hl : l.length ≤ 4611686018427387904) : Ev (fun k => seen_Right.f k l) (decide (Rise l)) := by
  have := right_loop l hl l.length 0 (by omega) (fun j h1 h2 => by omega)
  simpa [seen_Right.f] using this
theorem ref_right_inner (l : List Int) (hl : l.length ≤ 4611686018427387904) (i : Nat) (hi : i < l.length) (r : Bool) (next : (∀ j (h : j < l.length), j < i → l[j] < l[i]) → Ev (fun k => switchyardref20_Right.l0 k l (l.length : Int) ((i + 1 : Nat) : Int)) (decide (Rise l))) : ∀ d j : Nat, j + d = i → (∀ q (h : q < l.length), q < j → l[q] < l[i]) → Ev (fun k => switchyardref20_Right.l1 k l (i : Int) (j : Int) (l.length : Int) (i : Int)) (decide (Rise l)) := by
  intro d
  induction d with
  | zero =>
    intro j hj hq
    refine Ev.step (fun k => by simp only [switchyardref20_Right.l1]; rfl) (Ev.neg (by omega) ?_)
    rw [wr_succ hi (by omega)]
    have e : j = i := by omega
    subst e
    exact next hq
  | succ d ih =>
    intro j hj hq
    have hjl : j < l.length := by omega
    refine Ev.step (fun k => by simp only [switchyardref20_Right.l1]; rfl) (Ev.pos (by omega) (Ev.pos (by omega) (Ev.pos (by omega) (Ev.pos (by omega) (Ev.pos (by omega) ?_)))))
    rw [rd_at hjl, rd_at hi, wr_succ hjl (by omega)]
    by_cases h : l[j] ≥ l[i]
    · refine Ev.pos h (Ev.val ?_)
      rw [eq_comm, decide_eq_false_iff_not, rise_at]
      intro hR
      have := hR j i hjl hi (by omega)
      omega
    · refine Ev.neg h (ih (j + 1) (by omega) (fun q hq1 hq2 => ?_))
      by_cases e : q = j
      · subst e; omega
      · exact hq q hq1 (by omega)
theorem ref_right_loop (l : List Int) (hl : l.length ≤ 4611686018427387904) : ∀ d i : Nat, i + d = l.length → (∀ p q (hp : p < l.length) (hq : q < l.length), p < q → q < i → l[p] < l[q]) → Ev (fun k => switchyardref20_Right.l0 k l (l.length : Int) (i : Int)) (decide (Rise l)) := by
  intro d
  induction d with
  | zero =>
    intro i hi hr
    refine Ev.step (fun k => by simp only [switchyardref20_Right.l0]; rfl) (Ev.neg (by omega) (Ev.val ?_))
    rw [eq_comm, decide_eq_true_eq, rise_at]
    intro p q hp hq hpq
    exact hr p q hp hq hpq (by omega)
  | succ d ih =>
    intro i hi hr
    have hlt : i < l.length := by omega
    refine Ev.step (fun k => by simp only [switchyardref20_Right.l0]; rfl) (Ev.pos (by omega) ?_)
    refine ref_right_inner l hl i hlt true (fun hn => ih (i + 1) (by omega) (fun p q hp hq hpq hqi => ?_)) i 0 (by omega) (fun q h1 h2 => by omega)
    by_cases e : q = i
    · subst e; exact hn p hp hpq
    · exact hr p q hp hq hpq (by omega)
theorem ref_right_ev (l : List Int) (hl : l.length ≤ 4611686018427387904) : Ev (fun k => switchyardref20_Right.f k l) (decide (Rise l)) := by
  have := ref_right_loop l hl l.length 0 (by omega) (fun p q hp hq h1 h2 => by omega)
  simpa [switchyardref20_Right.f] using this
/-! BinarySearch -/
def Less (l : List Int) (x : Int) (p : Nat) : Prop := ∀ j (h : j < l.length), j < p → l[j] < x
def More (l : List Int) (x : Int) (p : Nat) : Prop := ∀ j (h : j < l.length), p ≤ j → x ≤ l[j]
theorem less_code (a b : Int) : cmp_Less_int64.f a b = some (decide (a < b)) := by
  unfold cmp_Less_int64.f cmp_isNaN_int64.f
  simp
theorem bs_loop (l : List Int) (x : Int) (hl : l.length ≤ 4611686018427387904) : ∀ d lo hi : Nat, hi - lo ≤ d → lo ≤ hi → hi ≤ l.length → (Rise l → Less l x lo ∧ More l x hi) → ∃ at_ ok, at_ ≤ l.length ∧ Ev (fun k => slices_BinarySearch_int64_int64.l0 k l x (l.length : Int) (lo : Int) (hi : Int)) ((at_ : Int), ok) ∧ (Rise l → Less l x at_ ∧ More l x at_ ∧ ok = decide (x ∈ l)) := by
  intro d
  induction d with
  | zero =>
    intro lo hi hd hle hhi hR
    have e : hi = lo := by omega
    subst e
    have notin : ¬ (∃ h : hi < l.length, l[hi] = x) → Rise l → ¬ x ∈ l := by
      intro hne hr hm
      obtain ⟨j, hj, e⟩ := List.mem_iff_getElem.1 hm
      obtain ⟨h1, h2⟩ := hR hr
      rcases Nat.lt_trichotomy j hi with h | h | h
      · have := h1 j hj h; omega
      · subst h; exact hne ⟨hj, e⟩
      · have h3 := (rise_at.1 hr) hi j (by omega) hj h
        have := h2 hi (by omega) (Nat.le_refl _)
        omega
    by_cases hn : hi < l.length
    · by_cases he : l[hi] = x
      · refine ⟨hi, true, hhi, ?_, fun hr => ⟨(hR hr).1, (hR hr).2, ?_⟩⟩
        · refine Ev.step (fun k => by simp only [slices_BinarySearch_int64_int64.l0]; rfl) (Ev.neg (by omega) (Ev.pos (by omega) (Ev.pos (by omega) (Ev.pos (by omega) ?_))))
          rw [rd_at hn]
          exact Ev.pos he (Ev.now _)
        · rw [eq_comm, decide_eq_true_eq, ← he]; exact List.getElem_mem hn
      · refine ⟨hi, false, hhi, ?_, fun hr => ⟨(hR hr).1, (hR hr).2, ?_⟩⟩
        · refine Ev.step (fun k => by simp only [slices_BinarySearch_int64_int64.l0]; rfl) (Ev.neg (by omega) (Ev.pos (by omega) (Ev.pos (by omega) (Ev.pos (by omega) ?_))))
          rw [rd_at hn]
          refine Ev.neg he ?_
          unfold slices_isNaN_int64.f
          refine Ev.bind (Ev.now _) (Ev.neg (by simp) (Ev.now _))
        · rw [eq_comm, decide_eq_false_iff_not]
          exact notin (fun ⟨h, e⟩ => he e) hr
    · refine ⟨hi, false, hhi, ?_, fun hr => ⟨(hR hr).1, (hR hr).2, ?_⟩⟩
      · exact Ev.step (fun k => by simp only [slices_BinarySearch_int64_int64.l0]; rfl) (Ev.neg (by omega) (Ev.neg (by omega) (Ev.now _)))
      · rw [eq_comm, decide_eq_false_iff_not]
        exact notin (fun ⟨h, e⟩ => hn h) hr
  | succ d ih =>
    intro lo hi hd hle hhi hR
    by_cases hlh : lo < hi
    · obtain ⟨m, hm⟩ : ∃ m, m = (lo + hi) / 2 := ⟨_, rfl⟩
      have e1 : wrap64 ((IntKind.u64.wrap (wrap64 ((lo : Int) + (hi : Int)))) / 2) = (m : Int) := by
        have h1 : wrap64 ((lo : Int) + (hi : Int)) = (lo : Int) + (hi : Int) := by unfold wrap64; omega
        have h2 : IntKind.u64.wrap ((lo : Int) + (hi : Int)) = (lo : Int) + (hi : Int) := by
          simp only [IntKind.wrap]
          exact Int.emod_eq_of_lt (by omega) (by have : (2 : Int) ^ IntKind.u64.bits = 18446744073709551616 := by decide
                                                 omega)
        rw [h1, h2]; unfold wrap64; omega
      have hml : m < l.length := by omega
      by_cases h : l[m] < x
      · obtain ⟨at_, ok, h1, h2, h3⟩ := ih (m + 1) hi (by omega) (by omega) hhi (fun hr => ⟨fun j hj hjm => by
          by_cases e : j = m
          · subst e; exact h
          · have := (rise_at.1 hr) j m hj hml (by omega)
            omega, (hR hr).2⟩)
        refine ⟨at_, ok, h1, ?_, h3⟩
        refine Ev.step (fun k => by simp only [slices_BinarySearch_int64_int64.l0]; rfl) (Ev.pos (by omega) ?_)
        rw [e1]
        refine Ev.pos (by omega) (Ev.pos (by omega) ?_)
        rw [rd_at hml, less_code, wr_succ hml (by omega)]
        exact Ev.bind (Ev.now _) (Ev.pos (by simp [h]) h2)
      · obtain ⟨at_, ok, h1, h2, h3⟩ := ih lo m (by omega) (by omega) (by omega) (fun hr => ⟨(hR hr).1, fun j hj hjm => by
          by_cases e : j = m
          · subst e; omega
          · have := (rise_at.1 hr) m j hml hj (by omega)
            omega⟩)
        refine ⟨at_, ok, h1, ?_, h3⟩
        refine Ev.step (fun k => by simp only [slices_BinarySearch_int64_int64.l0]; rfl) (Ev.pos (by omega) ?_)
        rw [e1]
        refine Ev.pos (by omega) (Ev.pos (by omega) ?_)
        rw [rd_at hml, less_code]
        exact Ev.bind (Ev.now _) (Ev.neg (by simp [h]) h2)
    · exact (show ∃ at_ ok, _ from by
        have := ih lo hi (by omega) hle hhi hR
        exact this)
theorem bs_ev (l : List Int) (x : Int) (hl : l.length ≤ 4611686018427387904) : ∃ at_ ok, at_ ≤ l.length ∧ Ev (fun k => slices_BinarySearch_int64_int64.f k l x) ((at_ : Int), ok) ∧ (Rise l → Less l x at_ ∧ More l x at_ ∧ ok = decide (x ∈ l)) := by
  obtain ⟨a, ok, h1, h2, h3⟩ := bs_loop l x hl l.length 0 l.length (by omega) (by omega) (Nat.le_refl _) (fun _ => ⟨fun j h hj => by omega, fun j h hj => by omega⟩)
  exact ⟨a, ok, h1, by simpa [slices_BinarySearch_int64_int64.f] using h2, h3⟩
/-! Known -/
def knownB (l : List Int) (x : Int) : Bool := decide (Rise l ∧ x ∈ l)
theorem known_ev (l : List Int) (x : Int) (hl : l.length ≤ 4611686018427387904) : Ev (fun k => seen_Known.f k l x) (knownB l x) := by
  obtain ⟨a, ok, h1, h2, h3⟩ := bs_ev l x hl
  unfold seen_Known.f knownB
  refine Ev.bind h2 ?_
  by_cases hr : Rise l
  · obtain ⟨_, _, h4⟩ := h3 hr
    by_cases hm : x ∈ l
    · rw [decide_eq_true hm] at h4
      refine Ev.pos h4 (Ev.bind (right_ev l hl) (Ev.val ?_))
      rw [decide_eq_decide]; simp [hr, hm]
    · rw [decide_eq_false hm] at h4
      refine Ev.neg (by simp [h4]) (Ev.val ?_)
      rw [eq_comm, decide_eq_false_iff_not]; exact fun h => hm h.2
  · rw [decide_eq_false (fun h => hr h.1)]
    cases ok with
    | true => exact Ev.pos rfl (Ev.bind (right_ev l hl) (Ev.val (decide_eq_false hr)))
    | false => exact Ev.neg (by simp) (Ev.now _)
theorem ref_known_loop (l : List Int) (x : Int) (hl : l.length ≤ 4611686018427387904) : ∀ d i : Nat, i + d = l.length → (∀ j (h : j < l.length), j < i → l[j] ≠ x) → Ev (fun k => switchyardref20_Known.l0 k l x l (l.length : Int) (i : Int)) (knownB l x) := by
  intro d
  unfold knownB
  induction d with
  | zero =>
    intro i hi hn
    refine Ev.step (fun k => by simp only [switchyardref20_Known.l0]; rfl) (Ev.neg (by omega) (Ev.val ?_))
    rw [eq_comm, decide_eq_false_iff_not]
    rintro ⟨_, hm⟩
    obtain ⟨j, hj, e⟩ := List.mem_iff_getElem.1 hm
    exact hn j hj (by omega) e
  | succ d ih =>
    intro i hi hn
    have hlt : i < l.length := by omega
    refine Ev.step (fun k => by simp only [switchyardref20_Known.l0]; rfl) (Ev.pos (by omega) (Ev.pos (by omega) (Ev.pos (by omega) ?_)))
    rw [rd_at hlt, wr_succ hlt (by omega)]
    by_cases h : l[i] = x
    · refine Ev.pos h (Ev.bind (ref_right_ev l hl) (Ev.val ?_))
      have hm : x ∈ l := by rw [← h]; exact List.getElem_mem hlt
      rw [decide_eq_decide]; simp [hm]
    · refine Ev.neg h (ih (i + 1) (by omega) (fun j hj hji => ?_))
      by_cases e : j = i
      · subst e; exact h
      · exact hn j hj (by omega)
theorem ref_known_ev (l : List Int) (x : Int) (hl : l.length ≤ 4611686018427387904) : Ev (fun k => switchyardref20_Known.f k l x) (knownB l x) := by
  have := ref_known_loop l x hl l.length 0 (by omega) (fun j h1 h2 => by omega)
  simpa [switchyardref20_Known.f] using this
/-! Add -/
def below (l : List Int) (x : Int) : List Int := l.filter fun y => decide (y < x)
def above (l : List Int) (x : Int) : List Int := l.filter fun y => decide (x < y)
def insS (l : List Int) (x : Int) : List Int := below l x ++ x :: above l x
def addL (l : List Int) (x m : Int) : List Int × Int := if ¬ Rise l then ([], 4) else if x ∈ l then ([], 45) else if (l.length : Int) ≥ m then ([], 42) else (insS l x, 0)
theorem below_len (l : List Int) (x : Int) : (below l x).length ≤ l.length := List.length_filter_le _ _
theorem above_len (l : List Int) (x : Int) : (above l x).length ≤ l.length := List.length_filter_le _ _
theorem filter_snoc {p : Int → Bool} (l : List Int) (i : Nat) (h : i < l.length) : (l.take (i + 1)).filter p = (l.take i).filter p ++ (if p l[i] = true then [l[i]] else []) := by
  rw [List.take_succ_eq_append_getElem h, List.filter_append]
  congr 1
  by_cases hp : p l[i] = true
  · simp [hp]
  · simp [hp]
theorem ref_add_l1 (l : List Int) (x : Int) (pre : List Int) (hl : l.length ≤ 1000000) (hp : pre.length ≤ 2000000) : ∀ d i : Nat, i + d = l.length → Ev (fun k => switchyardref20_Add.l1 k x (pre ++ above (l.take i) x) l (l.length : Int) (i : Int)) (pre ++ above l x, 0) := by
  intro d
  induction d with
  | zero =>
    intro i hi
    refine Ev.step (fun k => by simp only [switchyardref20_Add.l1]; rfl) (Ev.neg (by omega) (Ev.val ?_))
    rw [List.take_of_length_le (by omega)]
  | succ d ih =>
    intro i hi
    have hlt : i < l.length := by omega
    have hlen := above_len (l.take i) x
    have ht := List.length_take_le' i l
    have next := ih (i + 1) (by omega)
    unfold above at next hlen ⊢
    rw [filter_snoc l i hlt] at next
    refine Ev.step (fun k => by simp only [switchyardref20_Add.l1]; rfl) (Ev.pos (by omega) (Ev.pos (by omega) (Ev.pos (by omega) ?_)))
    rw [rd_at hlt, wr_succ hlt (by omega)]
    by_cases h : l[i] > x
    · rw [if_pos (by simp; omega), ← List.append_assoc] at next
      exact Ev.pos h (Ev.pos (by rw [List.length_append]; omega) next)
    · rw [if_neg (by simp; omega), List.append_nil] at next
      exact Ev.neg h next
theorem ref_add_l0 (l : List Int) (x : Int) (hl : l.length ≤ 1000000) : ∀ d i : Nat, i + d = l.length → Ev (fun k => switchyardref20_Add.l0 k l x (below (l.take i) x) l (l.length : Int) (i : Int)) (insS l x, 0) := by
  intro d
  induction d with
  | zero =>
    intro i hi
    have hlen := below_len l x
    refine Ev.step (fun k => by simp only [switchyardref20_Add.l0]; rfl) (Ev.neg (by omega) ?_)
    rw [List.take_of_length_le (by omega)]
    refine Ev.pos (by omega) ?_
    have := ref_add_l1 l x (below l x ++ [x]) hl (by simp; omega) l.length 0 (by omega)
    simpa [above, insS] using this
  | succ d ih =>
    intro i hi
    have hlt : i < l.length := by omega
    have hlen := below_len (l.take i) x
    have ht := List.length_take_le' i l
    have next := ih (i + 1) (by omega)
    unfold below at next hlen ⊢
    rw [filter_snoc l i hlt] at next
    refine Ev.step (fun k => by simp only [switchyardref20_Add.l0]; rfl) (Ev.pos (by omega) (Ev.pos (by omega) (Ev.pos (by omega) ?_)))
    rw [rd_at hlt, wr_succ hlt (by omega)]
    by_cases h : l[i] < x
    · rw [if_pos (by simp; omega)] at next
      exact Ev.pos h (Ev.pos (by omega) next)
    · rw [if_neg (by simp; omega), List.append_nil] at next
      exact Ev.neg h next
theorem ref_add_ev (l : List Int) (x m : Int) (hl : l.length ≤ 1000000) : Ev (fun k => switchyardref20_Add.f k l x m) (addL l x m) := by
  unfold switchyardref20_Add.f addL
  refine Ev.bind (ref_right_ev l (by omega)) ?_
  by_cases hr : Rise l
  · rw [decide_eq_true hr, if_neg (by simp [hr])]
    refine Ev.pos rfl (Ev.bind (ref_known_ev l x (by omega)) ?_)
    unfold knownB
    by_cases hm : x ∈ l
    · rw [decide_eq_true ⟨hr, hm⟩, if_pos hm]
      exact Ev.pos rfl (Ev.now _)
    · rw [decide_eq_false (fun h => hm h.2), if_neg hm]
      refine Ev.neg (by simp) ?_
      by_cases hq : (l.length : Int) ≥ m
      · rw [if_pos hq]; exact Ev.pos hq (Ev.now _)
      · rw [if_neg hq]
        refine Ev.neg hq ?_
        have := ref_add_l0 l x hl l.length 0 (by omega)
        simpa [below] using this
  · rw [decide_eq_false hr, if_pos hr]
    exact Ev.neg (by simp) (Ev.now _)
/-- Where the search ends, the list is cut in those below and those above. -/
theorem cut_at (l : List Int) (x : Int) (a : Nat) (ha : a ≤ l.length) (h1 : Less l x a) (h2 : More l x a) (hx : ¬ x ∈ l) : l.take a ++ x :: l.drop a = insS l x := by
  have e : l = l.take a ++ l.drop a := (List.take_append_drop a l).symm
  have t1 : ∀ y ∈ l.take a, y < x := by
    intro y hy
    obtain ⟨j, hj, rfl⟩ := List.mem_iff_getElem.1 hy
    rw [List.length_take] at hj
    rw [List.getElem_take]
    exact h1 j (by omega) (by omega)
  have t2 : ∀ y ∈ l.drop a, x < y := by
    intro y hy
    have hyl : y ∈ l := List.mem_of_mem_drop hy
    obtain ⟨j, hj, rfl⟩ := List.mem_iff_getElem.1 hy
    rw [List.length_drop] at hj
    rw [List.getElem_drop] at hyl ⊢
    have := h2 (a + j) (by omega) (by omega)
    have hne : l[a + j] ≠ x := fun e => hx (by rw [← e]; exact hyl)
    omega
  have b1 : below l x = l.take a := by
    unfold below
    conv => lhs; rw [e]
    rw [List.filter_append, List.filter_eq_self.2 (fun y hy => by simp [t1 y hy]), List.filter_eq_nil_iff.2 (fun y hy => by have := t2 y hy; simp; omega), List.append_nil]
  have b2 : above l x = l.drop a := by
    unfold above
    conv => lhs; rw [e]
    rw [List.filter_append, List.filter_eq_nil_iff.2 (fun y hy => by have := t1 y hy; simp; omega), List.filter_eq_self.2 (fun y hy => by simp [t2 y hy]), List.nil_append]
  unfold insS
  rw [b1, b2]
/-! Same -/
theorem same_loop (l m : List Int) (hl : l.length ≤ 4611686018427387904) (he : l.length = m.length) : ∀ d i : Nat, i + d = l.length → Ev (fun k => switchyardlaw16_Same.l0 k l m (l.length : Int) (i : Int)) (decide (l.drop i = m.drop i)) := by
  intro d
  induction d with
  | zero =>
    intro i hi
    refine Ev.step (fun k => by simp only [switchyardlaw16_Same.l0]; rfl) (Ev.neg (by omega) (Ev.val ?_))
    rw [List.drop_eq_nil_of_le (show l.length ≤ i by omega), List.drop_eq_nil_of_le (show m.length ≤ i by omega)]; simp
  | succ d ih =>
    intro i hi
    have hlt : i < l.length := by omega
    have hml : i < m.length := by omega
    refine Ev.step (fun k => by simp only [switchyardlaw16_Same.l0]; rfl) (Ev.pos (by omega) (Ev.pos (by omega) (Ev.pos (by omega) (Ev.pos (by omega) ?_))))
    rw [rd_at hlt, rd_at hml, wr_succ hlt (by omega), List.drop_eq_getElem_cons hlt, List.drop_eq_getElem_cons hml]
    by_cases h : l[i] = m[i]
    · have e : decide (l[i] :: l.drop (i + 1) = m[i] :: m.drop (i + 1)) = decide (l.drop (i + 1) = m.drop (i + 1)) := by
        rw [decide_eq_decide, h]; simp only [List.cons.injEq, true_and]
      rw [e]
      exact Ev.pos h (ih (i + 1) (by omega))
    · have e : decide (l[i] :: l.drop (i + 1) = m[i] :: m.drop (i + 1)) = false := by rw [decide_eq_false_iff_not]; intro hh; exact h (List.cons.inj hh).1
      rw [e]
      exact Ev.neg h (Ev.now _)
theorem same_ev (l m : List Int) (hl : l.length ≤ 4611686018427387904) : Ev (fun k => switchyardlaw16_Same.f k l m) (decide (l = m)) := by
  unfold switchyardlaw16_Same.f
  by_cases he : l.length = m.length
  · refine Ev.pos (by omega) ?_
    have := same_loop l m hl he l.length 0 (by omega)
    simpa using this
  · refine Ev.neg (by omega) (Ev.val ?_)
    rw [eq_comm, decide_eq_false_iff_not]; intro h; exact he (by rw [h])
end Go.Proofs.Ytmbojmmboolagaa.XS
