/- Layer 20, in plain words: rising lists and what they hold. Conditions: those that each statement names. -/
import Derived.Test.YtmbojmmboolagaaSeenP
namespace Go.Proofs.Ytmbojmmboolagaa.XS
open Go.RowKit Go.Proofs.YtmbojmmboolagaaW.PrintWords Go.Proofs.YtmbojmmboolagaaW.PrintLast Go.Proofs.YtmbojmmboolagaaW.PrintMore
set_option linter.unusedVariables false
set_option linter.unusedSimpArgs false
theorem ins_all (l : List Int) (x : Int) (hl : l.length ≤ 1000) (hr : Rise l) (hx : ¬ x ∈ l) : Rise (insS l x) ∧ (∀ y, y ∈ insS l x ↔ y = x ∨ y ∈ l) ∧ (insS l x).length = l.length + 1 := by
  obtain ⟨a, ok, ha, _, h⟩ := bs_ev l x (by omega)
  obtain ⟨h1, h2, _⟩ := h hr
  rw [← cut_at l x a ha h1 h2 hx]
  have e : l = l.take a ++ l.drop a := (List.take_append_drop a l).symm
  have t1 : ∀ y ∈ l.take a, y < x := by
    intro y hy
    obtain ⟨j, hj, rfl⟩ := List.mem_iff_getElem.1 hy
    rw [List.length_take] at hj
    rw [List.getElem_take]
    exact h1 j (by omega) (by omega)
  have t2 : ∀ y ∈ l.drop a, x < y := by
    intro y hy
    have hyl : y ∈ l := List.mem_of_mem_drop hy
    obtain ⟨j, hj, rfl⟩ := List.mem_iff_getElem.1 hy
    rw [List.length_drop] at hj
    rw [List.getElem_drop] at hyl ⊢
    have := h2 (a + j) (by omega) (by omega)
    have hne : l[a + j] ≠ x := fun e => hx (by rw [← e]; exact hyl)
    omega
  refine ⟨?_, fun y => ?_, by simp; omega⟩
  · unfold Rise at hr ⊢
    rw [e] at hr
    obtain ⟨p1, p2, p3⟩ := List.pairwise_append.1 hr
    rw [List.pairwise_append]
    refine ⟨p1, List.pairwise_cons.2 ⟨t2, p2⟩, fun y hy z hz => ?_⟩
    rcases List.mem_cons.1 hz with hz | hz
    · rw [hz]; exact t1 y hy
    · exact p3 y hy z hz
  · rw [List.mem_append, List.mem_cons]
    have : y ∈ l ↔ y ∈ l.take a ∨ y ∈ l.drop a := by rw [← List.mem_append, List.take_append_drop]
    rw [this]
    constructor
    · rintro (h | h | h)
      · exact Or.inr (Or.inl h)
      · exact Or.inl h
      · exact Or.inr (Or.inr h)
    · rintro (h | h | h)
      · exact Or.inr (Or.inl h)
      · exact Or.inl h
      · exact Or.inr (Or.inr h)
theorem rise_ext : ∀ l m : List Int, Rise l → Rise m → (∀ y, y ∈ l ↔ y ∈ m) → l = m
  | [], [], _, _, _ => rfl
  | [], b :: m, _, _, h => absurd ((h b).2 List.mem_cons_self) (by simp)
  | a :: l, [], _, _, h => absurd ((h a).1 List.mem_cons_self) (by simp)
  | a :: l, b :: m, hl, hm, h => by
    obtain ⟨l1, l2⟩ := List.pairwise_cons.1 hl
    obtain ⟨m1, m2⟩ := List.pairwise_cons.1 hm
    have hab : a = b := by
      have h1 := (h a).1 List.mem_cons_self
      have h2 := (h b).2 List.mem_cons_self
      rcases List.mem_cons.1 h1 with h1 | h1
      · exact h1
      · rcases List.mem_cons.1 h2 with h2 | h2
        · exact h2.symm
        · have := m1 a h1; have := l1 b h2; omega
    subst hab
    rw [rise_ext l m l2 m2 (fun y => ?_)]
    constructor
    · intro hy
      rcases List.mem_cons.1 ((h y).1 (List.mem_cons_of_mem _ hy)) with e | e
      · have := l1 y hy; omega
      · exact e
    · intro hy
      rcases List.mem_cons.1 ((h y).2 (List.mem_cons_of_mem _ hy)) with e | e
      · have := m1 y hy; omega
      · exact e
/-- The rising list of what is in s. -/
def SetOf (l s : List Int) (i : Nat) : Prop := Rise l ∧ (∀ y, y ∈ l ↔ y ∈ s) ∧ l.length ≤ i
theorem setOf_nil (s : List Int) (h : s = []) : SetOf [] s 0 := ⟨List.Pairwise.nil, fun y => by rw [h], Nat.le_refl _⟩
theorem setOf_add {l s s' : List Int} {i : Nat} {x : Int} (h : SetOf l s i) (hi : i < 100) (hs : ∀ y, y ∈ s' ↔ y = x ∨ y ∈ s) :
    (x ∈ s → addL l x 100 = ([], 45) ∧ SetOf l s' (i + 1)) ∧ (¬ x ∈ s → addL l x 100 = (insS l x, 0) ∧ SetOf (insS l x) s' (i + 1)) := by
  obtain ⟨h1, h2, h3⟩ := h
  constructor
  · intro hx
    refine ⟨?_, h1, fun y => ?_, by omega⟩
    · unfold addL
      rw [if_neg (by simp [h1]), if_pos ((h2 x).2 hx)]
    · rw [hs, h2]
      constructor
      · exact Or.inr
      · rintro (e | e)
        · rw [e]; exact hx
        · exact e
  · intro hx
    have hxl : ¬ x ∈ l := fun h => hx ((h2 x).1 h)
    obtain ⟨a1, a2, a3⟩ := ins_all l x (by omega) h1 hxl
    refine ⟨?_, a1, fun y => ?_, by omega⟩
    · unfold addL
      rw [if_neg (by simp [h1]), if_neg hxl, if_neg (by omega)]
    · rw [a2, hs, h2]
end Go.Proofs.Ytmbojmmboolagaa.XS
