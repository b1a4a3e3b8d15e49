/- ValuePrints: the memory that the law writes into: the lists of the twins, told by their shape alone. Conditions: those that each statement names. -/
import Derived.Test.YtdmmgeggljlceaaDoorXV14
namespace Go.Proofs.YtdmmgeggljlceaaDoor.XV
open Go.RowKit Go.Proofs.YtdmmgeggljlceaaDoorW.PrintWords Go.Proofs.YtdmmgeggljlceaaDoorW.PrintLast Go.Proofs.YtdmmgeggljlceaaDoorW.PrintMore
set_option linter.unusedVariables false
/-- A slice of int64 in a block between N0 and N1. -/
def Inn (N0 N1 : Nat) (w : World) (v : Value) : Prop := ∃ A n c, v = .slice A n c ∧ n ≤ 9223372036854775807 ∧ (n = 0 ∨ ∃ b z, A = some ⟨b, 0, none⟩ ∧ N0 ≤ b ∧ b < N1 ∧ w.heap[b]? = some (.cells z 2 (0, 0)) ∧ ∀ j, j < n → ∃ u, z[j]? = some (.int .i64 u))
def TShape (N0 N1 g : Nat) (cells : Array Value) (m : Nat) (w : World) : Prop := w.heap[g]? = some (.cells cells 24 (0, 0)) ∧ ∀ i, i < m → ∃ v, cells[i * 4 + 3]? = some v ∧ Inn N0 N1 w v
theorem inn_of {w : World} {base : Nat} {ok : Nat → Prop} {v : Value} {xs : List Int} (h : (Kd.int .i64).R 2 w base ok v xs) : Inn base w.heap.size w v := by
  have h0 := h
  obtain ⟨A, c, rfl, hc, hC⟩ := Kd.R_reads h0
  refine ⟨A, xs.length, c, rfl, hC.2.1, ?_⟩
  obtain ⟨inner, ho⟩ := Kd.R_own h
  rcases ho.2 with ⟨_, hn⟩ | ⟨g, cap, cur, hv, hg, hh, _⟩
  · exact Or.inl hn
  · right
    injection hv with hA _ _
    subst hA
    refine ⟨g, cur, rfl, hg, blk_lt hh, hh, fun j hj => ?_⟩
    obtain ⟨ad, ea, hx⟩ := Kd.at_int hC (j : Int) (by omega) (by omega)
    injection ea with ea
    subst ea
    rw [Int.toNat_natCast, add_at, Nat.zero_add, blk_cell hh] at hx
    exact ⟨_, hx⟩
theorem inn_below {N0 N1 : Nat} {w w' : World} {v : Value} (h : Inn N0 N1 w v) (hb : Below w.heap.size w w') : Inn N0 N1 w' v := by
  obtain ⟨A, n, c, e, hle, h⟩ := h
  refine ⟨A, n, c, e, hle, ?_⟩
  rcases h with h | ⟨b, z, e2, h1, h2, h3, h4⟩
  · exact Or.inl h
  · exact Or.inr ⟨b, z, e2, h1, h2, blk_below h3 hb, h4⟩
theorem tshape_below {N0 N1 g m : Nat} {cells : Array Value} {w w' : World} (h : TShape N0 N1 g cells m w) (hb : Below w.heap.size w w') : TShape N0 N1 g cells m w' :=
  ⟨blk_below h.1 hb, fun i hi => by
    obtain ⟨v, h1, h2⟩ := h.2 i hi
    exact ⟨v, h1, inn_below h2 hb⟩⟩
theorem inn_store {N0 N1 b j : Nat} {z : Array Value} {u : Int} {w : World} {v : Value} (h : Inn N0 N1 w v) (hb : w.heap[b]? = some (.cells z 2 (0, 0))) : Inn N0 N1 (w.setCell ⟨b, j, none⟩ (.int .i64 u)) v := by
  obtain ⟨A, n, c, e, hle, h⟩ := h
  refine ⟨A, n, c, e, hle, ?_⟩
  rcases h with h | ⟨b', z', e2, h1, h2, h3, h4⟩
  · exact Or.inl h
  · right
    by_cases hbb : b' = b
    · subst hbb
      rw [hb] at h3
      injection h3 with h3
      injection h3 with h3 _ _
      subst h3
      refine ⟨b', z.setIfInBounds j (.int .i64 u), e2, h1, h2, blk_set hb j _, fun q hq => ?_⟩
      rw [Array.getElem?_setIfInBounds]
      obtain ⟨u', hu'⟩ := h4 q hq
      by_cases hjq : j = q
      · subst hjq
        rw [if_pos rfl, if_pos (Array.getElem?_eq_some_iff.1 hu').1]
        exact ⟨_, rfl⟩
      · rw [if_neg hjq]; exact ⟨u', hu'⟩
    · exact ⟨b', z', e2, h1, h2, blk_far h3 hbb _, h4⟩
theorem tshape_store {N0 N1 g m b j : Nat} {cells z : Array Value} {u : Int} {w : World} (h : TShape N0 N1 g cells m w) (hb : w.heap[b]? = some (.cells z 2 (0, 0))) : TShape N0 N1 g cells m (w.setCell ⟨b, j, none⟩ (.int .i64 u)) := by
  refine ⟨blk_far h.1 (blk_ne h.1 hb (by decide)) _, fun i hi => ?_⟩
  obtain ⟨v, h1, h2⟩ := h.2 i hi
  exact ⟨v, h1, inn_store h2 hb⟩
theorem tshape_of {w : World} {base : Nat} {ok : Nat → Prop} {A : Option Addr} {c : Nat} {xs : List S24} (h : Kd.S k24 24 w base ok (.slice A xs.length c) xs) (hm : 0 < xs.length) : ∃ g cells, A = some ⟨g, 0, none⟩ ∧ TShape base w.heap.size g cells xs.length w := by
  have hR := Kd.S_R h
  obtain ⟨inner, ho⟩ := Kd.R_own hR
  rcases ho.2 with ⟨_, hn⟩ | ⟨g, cap, cur, hv, hg, hh, _⟩
  · omega
  · injection hv with hA _ _
    subst hA
    refine ⟨g, cur, rfl, hh, fun i hi => ?_⟩
    obtain ⟨cs, hl, hM, hc⟩ := Kd.S_get h z24 (i : Int) (by omega) (by omega)
    obtain ⟨v3, rfl, hR3⟩ := k24_openM hM
    have := hc 3 v3 rfl
    rw [Int.toNat_natCast, add_at, Nat.zero_add, blk_cell hh] at this
    exact ⟨v3, this, inn_of hR3⟩
/-- Of a row that may be empty. -/
def TS (N0 N1 g : Nat) (cells : Array Value) (m : Nat) (w : World) : Prop := 0 < m → TShape N0 N1 g cells m w
theorem ts_below {N0 N1 g m : Nat} {cells : Array Value} {w w' : World} (h : TS N0 N1 g cells m w) (hb : Below w.heap.size w w') : TS N0 N1 g cells m w' := fun hm => tshape_below (h hm) hb
theorem ts_of {w : World} {base : Nat} {ok : Nat → Prop} {A : Option Addr} {c : Nat} {xs : List S24} (h : Kd.S k24 24 w base ok (.slice A xs.length c) xs) : ∃ g cells, (0 < xs.length → A = some ⟨g, 0, none⟩) ∧ TS base w.heap.size g cells xs.length w := by
  by_cases hm : 0 < xs.length
  · obtain ⟨g, cells, h1, h2⟩ := tshape_of h hm
    exact ⟨g, cells, fun _ => h1, fun _ => h2⟩
  · exact ⟨0, #[], fun h => absurd h hm, fun h => absurd h hm⟩
theorem was_of {w : World} {N1 N2 : Nat} {v : Value} {xs : List S24} (h : Kd.S k24 24 w N2 (fun _ => True) v xs) (hN : N1 ≤ N2) : Kd.R k24 24 w N2 (fun k => N1 ≤ k) v xs :=
  Kd.R_mono (Kd.R_bound (Kd.S_R h)) (fun k hk => Nat.le_trans hN hk.2.1)
end Go.Proofs.YtdmmgeggljlceaaDoor.XV
