/- Layer 6, in plain words: what the printed functions Order and Same answer, and that the document's agree. Conditions: lists of fewer than 2^62 numbers. -/
import Derived.Test.YtdmmgeggljlceaaDoorXV19
import Derived.Test.YtdmmgeggljlceaaDoorXV18
import Derived.Test.YtdmmgeggljlceaaDoorXV9
import Derived.Test.YtdmmgeggljlceaaDoorPureA
namespace Go.Proofs.YtdmmgeggljlceaaDoor.XV
open Go.RowKit Go.Proofs.YtdmmgeggljlceaaDoorW.PrintWords Go.Proofs.YtdmmgeggljlceaaDoorW.PrintLast Go.Proofs.YtdmmgeggljlceaaDoorW.PrintMore
set_option linter.unusedVariables false
set_option linter.unusedSimpArgs false
def cmpI (a b : Int) : Int := if a < b then -1 else if b < a then 1 else 0
def cmpLs : List Int → List Int → Int
  | [], [] => 0
  | [], _ :: _ => -1
  | _ :: _, [] => 1
  | x :: xs, y :: ys => if cmpI x y = 0 then cmpLs xs ys else cmpI x y
def cmpS (s t : ByteArray) : Int := Lib.compareBytes s.data.toList t.data.toList
def orI : List Int → Int
  | [] => 0
  | x :: r => if x = 0 then orI r else x
def orderV (a n : Int) (t : ByteArray) (l : List Int) (b m : Int) (u : ByteArray) (p : List Int) : Int := orI [cmpI a b, cmpI n m, cmpS t u, cmpLs l p]
theorem cmpI_zero {a b : Int} : cmpI a b = 0 ↔ a = b := by unfold cmpI; repeat' split; all_goals omega
theorem cmp_code (a b : Int) : cmp_Compare_int.f a b = some (cmpI a b) := by
  unfold cmp_Compare_int.f cmp_isNaN_int.f cmpI
  simp only [Option.bind_some, bne_self_eq_false, Bool.false_eq_true, if_false]
  repeat' split
  all_goals (first | rfl | omega)
theorem cmp64_code (a b : Int) : cmp_Compare_int64.f a b = some (cmpI a b) := by
  unfold cmp_Compare_int64.f cmp_isNaN_int64.f cmpI
  simp only [Option.bind_some, bne_self_eq_false, Bool.false_eq_true, if_false]
  repeat' split
  all_goals (first | rfl | omega)
theorem less_code (a b : Int) : switchyardref06_less.f a b = some (cmpI a b) := by
  unfold switchyardref06_less.f cmpI
  repeat' split
  all_goals (first | rfl | omega)
theorem compare_loop (l p : List Int) (hl : l.length ≤ 4611686018427387904) : ∀ d i : Nat, i + d = l.length → Ev (fun k => slices_Compare_int64_int64.l0 k l p l (l.length : Int) (i : Int)) (cmpLs (l.drop i) (p.drop i)) ∨ p.length < i := by
  intro d
  induction d with
  | zero =>
    intro i hi
    rcases Nat.lt_or_ge p.length i with h | h
    · exact Or.inr h
    · left
      refine Ev.step (fun k => by simp only [slices_Compare_int64_int64.l0]; rfl) (Ev.neg (by omega) ?_)
      rw [List.drop_eq_nil_of_le (show l.length ≤ i by omega)]
      by_cases hp : (l.length : Int) < (p.length : Int)
      · refine Ev.pos hp (Ev.val ?_)
        rw [List.drop_eq_getElem_cons (show i < p.length by omega)]; rfl
      · refine Ev.neg hp (Ev.val ?_)
        rw [List.drop_eq_nil_of_le (show p.length ≤ i by omega)]; rfl
  | succ d ih =>
    intro i hi
    rcases Nat.lt_or_ge p.length i with h | h
    · exact Or.inr h
    · left
      have hlt : i < l.length := by omega
      refine Ev.step (fun k => by simp only [slices_Compare_int64_int64.l0]; rfl) (Ev.pos (by omega) (Ev.pos (by omega) (Ev.pos (by omega) ?_)))
      rw [List.drop_eq_getElem_cons hlt]
      by_cases hp : (i : Int) ≥ (p.length : Int)
      · refine Ev.pos hp (Ev.val ?_)
        rw [List.drop_eq_nil_of_le (show p.length ≤ i by omega)]; rfl
      · have hpl : i < p.length := by omega
        refine Ev.neg hp (Ev.pos (by omega) ?_)
        rw [rd_at hlt, rd_at hpl, cmp64_code, List.drop_eq_getElem_cons hpl]
        show Ev _ (if cmpI l[i] p[i] = 0 then cmpLs (l.drop (i + 1)) (p.drop (i + 1)) else cmpI l[i] p[i])
        refine Ev.bind (Ev.now _) ?_
        by_cases hc : cmpI l[i] p[i] = 0
        · rw [if_pos hc]
          refine Ev.pos hc ?_
          rw [wr_succ hlt (by omega)]
          rcases ih (i + 1) (by omega) with h | h
          · exact h
          · omega
        · rw [if_neg hc]
          exact Ev.neg hc (Ev.now _)
theorem compare_ev (l p : List Int) (hl : l.length ≤ 4611686018427387904) : Ev (fun k => slices_Compare_int64_int64.f k l p) (cmpLs l p) := by
  rcases compare_loop l p hl l.length 0 (by omega) with h | h
  · simpa [slices_Compare_int64_int64.f] using h
  · omega
theorem or_loop (l : List Int) (hl : l.length ≤ 4611686018427387904) : ∀ d i : Nat, i + d = l.length → Ev (fun k => cmp_Or_int.l0 k 0 l (l.length : Int) (i : Int)) (orI (l.drop i)) := by
  intro d
  induction d with
  | zero =>
    intro i hi
    rw [List.drop_eq_nil_of_le (show l.length ≤ i by omega)]
    exact Ev.step (fun k => by simp only [cmp_Or_int.l0]; rfl) (Ev.neg (by omega) (Ev.now _))
  | succ d ih =>
    intro i hi
    have hlt : i < l.length := by omega
    refine Ev.step (fun k => by simp only [cmp_Or_int.l0]; rfl) (Ev.pos (by omega) (Ev.pos (by omega) (Ev.pos (by omega) ?_)))
    rw [rd_at hlt, List.drop_eq_getElem_cons hlt]
    show Ev _ (if l[i] = 0 then orI (l.drop (i + 1)) else l[i])
    by_cases h : l[i] = 0
    · rw [if_pos h]
      refine Ev.pos h ?_
      rw [wr_succ hlt (by omega)]
      exact ih (i + 1) (by omega)
    · rw [if_neg h]
      exact Ev.neg h (Ev.now _)
theorem or_ev (l : List Int) (hl : l.length ≤ 4611686018427387904) : Ev (fun k => cmp_Or_int.f k l) (orI l) := by
  have := or_loop l hl l.length 0 (by omega)
  simpa [cmp_Or_int.f] using this
theorem order_ev (a n : Int) (t : ByteArray) (l : List Int) (b m : Int) (u : ByteArray) (p : List Int) (hl : l.length ≤ 4611686018427387904) : Ev (fun k => value_Order.f k a n t l b m u p) (orderV a n t l b m u p) := by
  unfold value_Order.f orderV
  rw [cmp_code, cmp64_code]
  refine Ev.bind (Ev.now _) (Ev.bind (Ev.now _) (Ev.bind (Ev.now _) (Ev.bind (compare_ev l p hl) (Ev.bind (or_ev _ (by simp)) (Ev.now _)))))
theorem cmpLs_zero : ∀ l p : List Int, cmpLs l p = 0 ↔ l = p
  | [], [] => by simp [cmpLs]
  | [], _ :: _ => by simp [cmpLs]
  | _ :: _, [] => by simp [cmpLs]
  | x :: xs, y :: ys => by
    simp only [cmpLs]
    by_cases h : cmpI x y = 0
    · rw [if_pos h, cmpLs_zero xs ys]
      have := cmpI_zero.1 h
      simp [this]
    · rw [if_neg h]
      have : ¬ x = y := fun e => h (cmpI_zero.2 e)
      simp [this, h]
theorem bytes_zero : ∀ l p : List UInt8, Lib.compareBytes l p = 0 ↔ l = p
  | [], [] => by simp [Lib.compareBytes]
  | [], _ :: _ => by simp [Lib.compareBytes]
  | _ :: _, [] => by simp [Lib.compareBytes]
  | x :: xs, y :: ys => by
    simp only [Lib.compareBytes]
    by_cases h : x < y
    · rw [if_pos h]
      have : ¬ x = y := fun e => by rw [e] at h; exact absurd h (UInt8.lt_irrefl _)
      simp [this]
    · rw [if_neg h]
      by_cases h2 : y < x
      · rw [if_pos h2]
        have : ¬ x = y := fun e => by rw [e] at h2; exact absurd h2 (UInt8.lt_irrefl _)
        simp [this]
      · rw [if_neg h2, bytes_zero xs ys]
        have : x = y := UInt8.le_antisymm (UInt8.not_lt.1 h2) (UInt8.not_lt.1 h)
        simp [this]
theorem bytes_less : ∀ l p : List UInt8, ¬ l = p → (if Op.bytesLess l p = true then (-1 : Int) else 1) = Lib.compareBytes l p
  | [], [], h => absurd rfl h
  | [], _ :: _, _ => by simp [Op.bytesLess, Lib.compareBytes]
  | _ :: _, [], _ => by simp [Op.bytesLess, Lib.compareBytes]
  | x :: xs, y :: ys, h => by
    simp only [Op.bytesLess, Lib.compareBytes]
    by_cases h1 : x < y
    · simp [h1]
    · by_cases h2 : y < x
      · have : ¬ x = y := fun e => by rw [e] at h2; exact absurd h2 (UInt8.lt_irrefl _)
        simp [h1, h2, this]
      · have e : x = y := UInt8.le_antisymm (UInt8.not_lt.1 h2) (UInt8.not_lt.1 h1)
        subst e
        have := bytes_less xs ys (fun e => h (by rw [e]))
        simp [h1, this]
theorem str_eq_iff (t u : ByteArray) : t.toList = u.toList ↔ t = u := by
  constructor
  · intro h
    rw [ByteArray.toList_eq, ByteArray.toList_eq] at h
    exact ByteArray.ext (Array.toList_inj.1 h)
  · intro h; rw [h]
theorem cmpS_zero (t u : ByteArray) : cmpS t u = 0 ↔ t = u := by
  unfold cmpS
  rw [bytes_zero, ← str_eq_iff, ByteArray.toList_eq, ByteArray.toList_eq]
theorem order_loop (a n : Int) (t : ByteArray) (l : List Int) (b m : Int) (u : ByteArray) (p : List Int) (hl : l.length ≤ 4611686018427387904) : ∀ d i : Nat, i + d = l.length → i ≤ p.length → Ev (fun k => switchyardref06_Order.l0 k (i : Int) a n t l b m u p) (cmpLs (l.drop i) (p.drop i)) := by
  intro d
  have last : ∀ i : Nat, i ≤ l.length → i ≤ p.length → (i = l.length ∨ i = p.length) → Ev (fun k => switchyardref06_Order.j1 k (i : Int) false a n t l b m u p) (cmpLs (l.drop i) (p.drop i)) := by
    intro i h1 h2 h
    refine Ev.step (fun k => by simp only [switchyardref06_Order.j1]; rfl) (Ev.neg (by simp) ?_)
    rw [less_code]
    refine Ev.bind (Ev.now _) (Ev.val ?_)
    unfold cmpI
    by_cases hi : i < l.length
    · have hp : i = p.length := by omega
      rw [List.drop_eq_getElem_cons hi, List.drop_eq_nil_of_le (show p.length ≤ i by omega), if_neg (by omega), if_pos (by omega)]; rfl
    · rw [List.drop_eq_nil_of_le (show l.length ≤ i by omega)]
      by_cases hp : i < p.length
      · rw [List.drop_eq_getElem_cons hp, if_pos (by omega)]; rfl
      · rw [List.drop_eq_nil_of_le (show p.length ≤ i by omega), if_neg (by omega), if_neg (by omega)]; rfl
  induction d with
  | zero =>
    intro i hi hp
    exact Ev.step (fun k => by simp only [switchyardref06_Order.l0]; rfl) (Ev.neg (by omega) (last i (by omega) hp (Or.inl (by omega))))
  | succ d ih =>
    intro i hi hp
    have hlt : i < l.length := by omega
    refine Ev.step (fun k => by simp only [switchyardref06_Order.l0]; rfl) (Ev.pos (by omega) ?_)
    by_cases hpl : i < p.length
    · rw [decide_eq_true (show (i : Int) < (p.length : Int) by omega)]
      refine Ev.step (fun k => by simp only [switchyardref06_Order.j1]; rfl) (Ev.pos (by trivial) (Ev.pos (by omega) (Ev.pos (by omega) (Ev.pos (by omega) ?_))))
      rw [rd_at hlt, rd_at hpl, List.drop_eq_getElem_cons hlt, List.drop_eq_getElem_cons hpl]
      show Ev _ (if cmpI l[i] p[i] = 0 then cmpLs (l.drop (i + 1)) (p.drop (i + 1)) else cmpI l[i] p[i])
      by_cases hc : l[i] = p[i]
      · rw [if_pos (cmpI_zero.2 hc)]
        refine Ev.pos hc ?_
        rw [wr_succ hlt (by omega)]
        exact ih (i + 1) (by omega) (by omega)
      · rw [if_neg (fun h => hc (cmpI_zero.1 h))]
        refine Ev.neg hc ?_
        rw [less_code]
        exact Ev.bind (Ev.now _) (Ev.now _)
    · rw [decide_eq_false (show ¬ (i : Int) < (p.length : Int) by omega)]
      exact last i (by omega) hp (Or.inr (by omega))
theorem ref_order_ev (a n : Int) (t : ByteArray) (l : List Int) (b m : Int) (u : ByteArray) (p : List Int) (hl : l.length ≤ 4611686018427387904) : Ev (fun k => switchyardref06_Order.f k a n t l b m u p) (orderV a n t l b m u p) := by
  unfold switchyardref06_Order.f orderV
  simp only [orI]
  by_cases h1 : a = b
  · rw [if_pos (cmpI_zero.2 h1)]
    refine Ev.pos h1 ?_
    by_cases h2 : n = m
    · rw [if_pos (cmpI_zero.2 h2)]
      refine Ev.pos h2 ?_
      by_cases h3 : t.toList = u.toList
      · rw [if_pos ((cmpS_zero t u).2 ((str_eq_iff t u).1 h3))]
        refine Ev.pos h3 ?_
        have := order_loop a n t l b m u p hl l.length 0 (by omega) (by omega)
        have e : (if cmpLs l p = 0 then 0 else cmpLs l p) = cmpLs l p := by split <;> simp_all
        rw [e]
        simpa using this
      · have h3' : ¬ cmpS t u = 0 := fun h => h3 ((str_eq_iff t u).2 ((cmpS_zero t u).1 h))
        rw [if_neg h3']
        refine Ev.neg h3 ?_
        have e := bytes_less t.toList u.toList h3
        rw [ByteArray.toList_eq, ByteArray.toList_eq] at e
        by_cases hb : Op.bytesLess t.toList u.toList = true
        · refine Ev.pos hb (Ev.val ?_)
          rw [ByteArray.toList_eq, ByteArray.toList_eq] at hb
          rw [if_pos hb] at e
          exact e
        · refine Ev.neg hb (Ev.val ?_)
          rw [ByteArray.toList_eq, ByteArray.toList_eq] at hb
          rw [if_neg hb] at e
          exact e
    · rw [if_neg (fun h => h2 (cmpI_zero.1 h))]
      refine Ev.neg h2 ?_
      rw [less_code]
      exact Ev.bind (Ev.now _) (Ev.now _)
  · rw [if_neg (fun h => h1 (cmpI_zero.1 h))]
    refine Ev.neg h1 ?_
    rw [less_code]
    exact Ev.bind (Ev.now _) (Ev.now _)
def sameB (a n : Int) (t : ByteArray) (l : List Int) (b m : Int) (u : ByteArray) (p : List Int) : Bool := decide (a = b ∧ n = m ∧ t = u ∧ l = p)
theorem order_zero (a n : Int) (t : ByteArray) (l : List Int) (b m : Int) (u : ByteArray) (p : List Int) : (orderV a n t l b m u p == 0) = sameB a n t l b m u p := by
  rw [Bool.eq_iff_iff, beq_iff_eq]
  unfold sameB orderV
  simp only [orI, decide_eq_true_eq, ← cmpI_zero (a := a), ← cmpI_zero (a := n), ← cmpS_zero, ← cmpLs_zero]
  repeat' split
  all_goals simp_all
theorem same_code_ev (a n : Int) (t : ByteArray) (l : List Int) (b m : Int) (u : ByteArray) (p : List Int) (hl : l.length ≤ 4611686018427387904) : Ev (fun k => value_Same.f k a n t l b m u p) (sameB a n t l b m u p) := by
  unfold value_Same.f
  exact Ev.bind (order_ev a n t l b m u p hl) (Ev.val (order_zero a n t l b m u p))
theorem same_loop (a n : Int) (t : ByteArray) (l : List Int) (b m : Int) (u : ByteArray) (p : List Int) (hl : l.length ≤ 4611686018427387904) (he : l.length = p.length) : ∀ d i : Nat, i + d = l.length → Ev (fun k => switchyardref06_Same.l0 k true (i : Int) a n t l b m u p) (decide (l.drop i = p.drop i)) := by
  intro d
  induction d with
  | zero =>
    intro i hi
    refine Ev.step (fun k => by simp only [switchyardref06_Same.l0]; rfl) (Ev.pos (by trivial) (Ev.neg (by omega) (Ev.val ?_)))
    rw [List.drop_eq_nil_of_le (show l.length ≤ i by omega), List.drop_eq_nil_of_le (show p.length ≤ i by omega)]; simp
  | succ d ih =>
    intro i hi
    have hlt : i < l.length := by omega
    have hpl : i < p.length := by omega
    refine Ev.step (fun k => by simp only [switchyardref06_Same.l0]; rfl) (Ev.pos (by trivial) (Ev.pos (by omega) (Ev.pos (by omega) (Ev.pos (by omega) ?_))))
    rw [rd_at hlt, rd_at hpl, List.drop_eq_getElem_cons hlt, List.drop_eq_getElem_cons hpl, wr_succ hlt (by omega)]
    by_cases h : l[i] = p[i]
    · rw [show (l[i] == p[i]) = true by simp [h]]
      have := ih (i + 1) (by omega)
      have e : decide (l[i] :: l.drop (i + 1) = p[i] :: p.drop (i + 1)) = decide (l.drop (i + 1) = p.drop (i + 1)) := by
        rw [decide_eq_decide]; rw [h]; simp only [List.cons.injEq, true_and]
      rw [e]; exact this
    · rw [show (l[i] == p[i]) = false by simp [h]]
      have e : decide (l[i] :: l.drop (i + 1) = p[i] :: p.drop (i + 1)) = false := by rw [decide_eq_false_iff_not]; intro hh; exact h (List.cons.inj hh).1
      rw [e]
      exact Ev.step (fun k => by simp only [switchyardref06_Same.l0]; rfl) (Ev.neg (by simp) (Ev.now _))
theorem ref_same_ev (a n : Int) (t : ByteArray) (l : List Int) (b m : Int) (u : ByteArray) (p : List Int) (hl : l.length ≤ 4611686018427387904) : Ev (fun k => switchyardref06_Same.f k a n t l b m u p) (sameB a n t l b m u p) := by
  have no : ¬ (a = b ∧ n = m ∧ t = u ∧ l = p) → Ev (fun k => switchyardref06_Same.j0 k false a n t l b m u p) (sameB a n t l b m u p) := by
    intro h
    rw [show sameB a n t l b m u p = false from decide_eq_false h]
    refine Ev.step (fun k => by simp only [switchyardref06_Same.j0]; rfl) ?_
    exact Ev.step (fun k => by simp only [switchyardref06_Same.l0]; rfl) (Ev.neg (by simp) (Ev.now _))
  unfold switchyardref06_Same.f
  by_cases h1 : a = b
  · refine Ev.pos h1 ?_
    by_cases h2 : n = m
    · refine Ev.pos h2 ?_
      by_cases h3 : t.toList = u.toList
      · refine Ev.pos h3 ?_
        have h3' := (str_eq_iff t u).1 h3
        by_cases h4 : l.length = p.length
        · rw [show ((l.length : Int) == (p.length : Int)) = true by simp [h4]]
          refine Ev.step (fun k => by simp only [switchyardref06_Same.j0]; rfl) ?_
          have := same_loop a n t l b m u p hl h4 l.length 0 (by omega)
          have e : sameB a n t l b m u p = decide (l = p) := by unfold sameB; rw [decide_eq_decide]; simp [h1, h2, h3']
          rw [e]
          simpa using this
        · rw [show ((l.length : Int) == (p.length : Int)) = false by simp; omega]
          exact no (fun h => h4 (by rw [h.2.2.2]))
      · exact Ev.neg h3 (no (fun h => h3 (by rw [h.2.2.1])))
    · exact Ev.neg h2 (no (fun h => h2 h.2.1))
  · exact Ev.neg h1 (no (fun h => h1 h.1))
end Go.Proofs.YtdmmgeggljlceaaDoor.XV
