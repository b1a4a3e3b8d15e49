/- Layer 6, in plain words: rows with one key are the same, and what SameAll answers. Conditions: values that may be. -/
import Derived.Test.YtdmmgeggljlceaaDoorXV10
import Derived.Test.YtdmmgeggljlceaaDoorPureB
namespace Go.Proofs.YtdmmgeggljlceaaDoor.XV
open Go.RowKit Go.Proofs.YtdmmgeggljlceaaDoorW.PrintWords Go.Proofs.YtdmmgeggljlceaaDoorW.PrintLast Go.Proofs.YtdmmgeggljlceaaDoorW.PrintMore
set_option linter.unusedVariables false
set_option linter.unusedSimpArgs false
/-- The rest begins where no piece goes on. -/
def Ends (p : UInt8 → Bool) (r : List UInt8) : Prop := ∀ d r', r = d :: r' → p d = false
theorem cut_eq {p : UInt8 → Bool} : ∀ (l m r s : List UInt8), (∀ c ∈ l, p c = true) → (∀ c ∈ m, p c = true) → Ends p r → Ends p s → l ++ r = m ++ s → l = m ∧ r = s
  | [], [], r, s, _, _, _, _, h => ⟨rfl, h⟩
  | [], d :: m, r, s, _, hm, hr, _, h => by
    have := hr d (m ++ s) h
    rw [hm d List.mem_cons_self] at this; cases this
  | c :: l, [], r, s, hl, _, _, hs, h => by
    have := hs c (l ++ r) h.symm
    rw [hl c List.mem_cons_self] at this; cases this
  | c :: l, d :: m, r, s, hl, hm, hr, hs, h => by
    obtain ⟨h1, h2⟩ := List.cons.inj h
    obtain ⟨h3, h4⟩ := cut_eq l m r s (fun x hx => hl x (List.mem_cons_of_mem _ hx)) (fun x hx => hm x (List.mem_cons_of_mem _ hx)) hr hs h2
    exact ⟨by rw [h1, h3], h4⟩
/-! numbers -/
def valD (l : List UInt8) : Nat := l.foldl (fun a c => 10 * a + (c.toNat - 48)) 0
theorem valD_dec (u : Nat) : valD (Lib.decDigits u) = u := by
  induction u using Nat.strongRecOn with
  | _ u ih =>
    by_cases h : u < 10
    · rw [Lib.decDigits, dif_pos h]
      simp only [valD, List.foldl_cons, List.foldl_nil, UInt8.toNat_ofNat']; omega
    · rw [Lib.decDigits, dif_neg h]
      have := ih (u / 10) (by omega)
      unfold valD at this ⊢
      rw [List.foldl_append, this]
      simp only [List.foldl_cons, List.foldl_nil, UInt8.toNat_ofNat']; omega
theorem dec_mem (u : Nat) : ∀ c ∈ Lib.decDigits u, 48 ≤ c.toNat ∧ c.toNat ≤ 57 := by
  induction u using Nat.strongRecOn with
  | _ u ih =>
    intro c hc
    by_cases h : u < 10
    · rw [Lib.decDigits, dif_pos h] at hc
      rw [List.mem_singleton.1 hc, UInt8.toNat_ofNat']; omega
    · rw [Lib.decDigits, dif_neg h] at hc
      rcases List.mem_append.1 hc with hc | hc
      · exact ih (u / 10) (by omega) c hc
      · rw [List.mem_singleton.1 hc, UInt8.toNat_ofNat']; omega
theorem dec_ne (u : Nat) : Lib.decDigits u ≠ [] := by
  intro h
  have := Lib.decDigits_length u
  have h2 := Lib.nDigits_pos u
  rw [h] at this; simp at this; omega
theorem itoa_mem (n : Int) : ∀ c ∈ Lib.itoa n, c.toNat = 45 ∨ (48 ≤ c.toNat ∧ c.toNat ≤ 57) := by
  intro c hc
  unfold Lib.itoa at hc
  split at hc
  · rcases List.mem_cons.1 hc with hc | hc
    · left; rw [hc]; rfl
    · right; exact dec_mem _ c hc
  · right; exact dec_mem _ c hc
theorem itoa_head (n : Int) : ∃ c l, Lib.itoa n = c :: l ∧ (c.toNat = 45 ∨ (48 ≤ c.toNat ∧ c.toNat ≤ 57)) := by
  have h0 : Lib.itoa n ≠ [] := by
    unfold Lib.itoa; split
    · simp
    · exact dec_ne _
  obtain ⟨c, l, h⟩ := List.exists_cons_of_ne_nil h0
  exact ⟨c, l, h, itoa_mem n c (by rw [h]; exact List.mem_cons_self)⟩
theorem itoa_inj {n m : Int} (h : Lib.itoa n = Lib.itoa m) : n = m := by
  unfold Lib.itoa at h
  have no : ∀ u v : Nat, (45 : UInt8) :: Lib.decDigits u ≠ Lib.decDigits v := by
    intro u v e
    have := dec_mem v 45 (by rw [← e]; exact List.mem_cons_self)
    have e2 : (45 : UInt8).toNat = 45 := rfl
    omega
  split at h <;> split at h
  · have := congrArg valD (List.cons.inj h).2
    rw [valD_dec, valD_dec] at this; omega
  · exact absurd h (no _ _)
  · exact absurd h.symm (no _ _)
  · have := congrArg valD h
    rw [valD_dec, valD_dec] at this; omega
/-! texts -/
def enc (c : UInt8) : List UInt8 := bs (qb (c.toNat : Int))
def hx (n : Nat) : UInt8 := UInt8.ofNat (hexd (n : Int)).toNat
def unhx (a : UInt8) : Nat := if a.toNat < 58 then a.toNat - 48 else a.toNat - 87
theorem enc_all : ∀ n : Fin 256, (bs (qb ((n.val : Nat) : Int)) = [UInt8.ofNat n.val] ∧ n.val ≠ 92 ∧ n.val ≠ 34) ∨ (bs (qb ((n.val : Nat) : Int)) = [92, UInt8.ofNat n.val] ∧ n.val ≠ 120) ∨ (bs (qb ((n.val : Nat) : Int)) = [92, 120, hx (n.val / 16), hx (n.val % 16)] ∧ unhx (hx (n.val / 16)) = n.val / 16 ∧ unhx (hx (n.val % 16)) = n.val % 16) := by decide +kernel
theorem enc_is (c : UInt8) : (enc c = [c] ∧ c ≠ 92 ∧ c ≠ 34) ∨ (enc c = [92, c] ∧ c ≠ 120) ∨ (enc c = [92, 120, hx (c.toNat / 16), hx (c.toNat % 16)] ∧ unhx (hx (c.toNat / 16)) = c.toNat / 16 ∧ unhx (hx (c.toNat % 16)) = c.toNat % 16) := by
  have h := enc_all ⟨c.toNat, c.toNat_lt⟩
  simp only [UInt8.ofNat_toNat] at h
  have ne : ∀ d : UInt8, c.toNat ≠ d.toNat → c ≠ d := fun d hn e => hn (by rw [e])
  rcases h with ⟨h1, h2, h3⟩ | ⟨h1, h2⟩ | h
  · exact Or.inl ⟨h1, ne 92 h2, ne 34 h3⟩
  · exact Or.inr (Or.inl ⟨h1, ne 120 h2⟩)
  · exact Or.inr (Or.inr h)
theorem enc_inj (c d : UInt8) (x y : List UInt8) (h : enc c ++ x = enc d ++ y) : c = d ∧ x = y := by
  rcases enc_is c with ⟨hc, h1, h2⟩ | ⟨hc, h1⟩ | ⟨hc, h1, h2⟩ <;> rcases enc_is d with ⟨hd, h3, h4⟩ | ⟨hd, h3⟩ | ⟨hd, h3, h4⟩ <;> rw [hc, hd] at h <;> simp only [List.cons_append, List.nil_append, List.cons.injEq] at h
  · exact h
  · exact absurd h.1 h1
  · exact absurd h.1 h1
  · exact absurd h.1.symm h3
  · exact ⟨h.2.1, h.2.2⟩
  · exact absurd h.2.1 h1
  · exact absurd h.1.symm h3
  · exact absurd h.2.1.symm h3
  · obtain ⟨_, _, e1, e2, e3⟩ := h
    refine ⟨UInt8.toNat_inj.1 ?_, e3⟩
    have a1 := congrArg unhx e1
    have a2 := congrArg unhx e2
    rw [h1, h3] at a1
    rw [h2, h4] at a2
    omega
theorem enc_ne34 (c : UInt8) (x y : List UInt8) : enc c ++ x ≠ 34 :: y := by
  intro h
  rcases enc_is c with ⟨hc, h1, h2⟩ | ⟨hc, h1⟩ | ⟨hc, h1, h2⟩ <;> rw [hc] at h <;> simp only [List.cons_append, List.nil_append, List.cons.injEq] at h
  · exact h2 h.1
  · exact absurd h.1 (by decide)
  · exact absurd h.1 (by decide)
theorem body_inj : ∀ (s t r r' : List UInt8), s.flatMap enc ++ 34 :: r = t.flatMap enc ++ 34 :: r' → s = t ∧ r = r'
  | [], [], r, r', h => ⟨rfl, (List.cons.inj h).2⟩
  | [], d :: t, r, r', h => by
    rw [List.flatMap_nil, List.nil_append, List.flatMap_cons, List.append_assoc] at h
    exact absurd h.symm (enc_ne34 _ _ _)
  | c :: s, [], r, r', h => by
    rw [List.flatMap_nil, List.nil_append, List.flatMap_cons, List.append_assoc] at h
    exact absurd h (enc_ne34 _ _ _)
  | c :: s, d :: t, r, r', h => by
    rw [List.flatMap_cons, List.flatMap_cons, List.append_assoc, List.append_assoc] at h
    obtain ⟨h1, h2⟩ := enc_inj _ _ _ _ h
    obtain ⟨h3, h4⟩ := body_inj s t r r' h2
    exact ⟨by rw [h1, h3], h4⟩
theorem quoted_bytes (t : ByteArray) : bs (quotedL t) = 34 :: (t.data.toList.flatMap enc ++ [34]) := by
  unfold quotedL bs bytesOf
  simp only [List.map_append, List.map_cons, List.map_nil, List.cons_append, List.map_flatMap, List.flatMap_map]
  rfl
/-! lists -/
theorem join2_mem (l : List Int) : ∀ c ∈ join2 l, c.toNat = 45 ∨ (48 ≤ c.toNat ∧ c.toNat ≤ 57) ∨ c.toNat = 44 ∨ c.toNat = 32 := by
  unfold join2
  cases l with
  | nil => intro c hc; cases hc
  | cons x r =>
    rw [List.map_cons, Lib.join_cons]
    intro c hc
    rcases List.mem_append.1 hc with hc | hc
    · rcases itoa_mem x c hc with h | h
      · exact Or.inl h
      · exact Or.inr (Or.inl h)
    · unfold Lib.joinTail at hc
      obtain ⟨p, hp, hc⟩ := List.mem_flatten.1 hc
      obtain ⟨q, hq, rfl⟩ := List.mem_map.1 hp
      obtain ⟨z, hz, rfl⟩ := List.mem_map.1 hq
      rcases List.mem_append.1 hc with hc | hc
      · have : c = 44 ∨ c = 32 := by simpa using hc
        rcases this with h | h
        · exact Or.inr (Or.inr (Or.inl (by rw [h]; rfl)))
        · exact Or.inr (Or.inr (Or.inr (by rw [h]; rfl)))
      · rcases itoa_mem z c hc with h | h
        · exact Or.inl h
        · exact Or.inr (Or.inl h)
theorem itoa_p (n : Int) : ∀ c ∈ Lib.itoa n, (fun c : UInt8 => !(c == 44)) c = true := by
  intro c hc
  have := itoa_mem n c hc
  have e : (44 : UInt8).toNat = 44 := rfl
  have h : ¬ c = 44 := fun h => by rw [h, e] at this; omega
  simp [h]
theorem tail_ends (l : List (List UInt8)) (sep : List UInt8) : Ends (fun c : UInt8 => !(c == 44)) (Lib.joinTail (44 :: sep) l) := by
  intro d r' h
  cases l with
  | nil => cases h
  | cons x l =>
    unfold Lib.joinTail at h
    rw [List.map_cons, List.flatten_cons, List.cons_append, List.cons_append] at h
    rw [← (List.cons.inj h).1]; rfl
theorem tail2_inj : ∀ l m : List Int, Lib.joinTail [44, 32] (l.map Lib.itoa) = Lib.joinTail [44, 32] (m.map Lib.itoa) → l = m
  | [], [], _ => rfl
  | [], x :: m, h => by unfold Lib.joinTail at h; simp at h
  | x :: l, [], h => by unfold Lib.joinTail at h; simp at h
  | x :: l, y :: m, h => by
    have e : ∀ (x : Int) (l : List Int), Lib.joinTail [44, 32] ((x :: l).map Lib.itoa) = 44 :: 32 :: (Lib.itoa x ++ Lib.joinTail [44, 32] (l.map Lib.itoa)) := fun x l => by
      unfold Lib.joinTail; simp
    rw [e, e] at h
    have h2 := (List.cons.inj (List.cons.inj h).2).2
    obtain ⟨h3, h4⟩ := cut_eq _ _ _ _ (itoa_p x) (itoa_p y) (tail_ends _ _) (tail_ends _ _) h2
    rw [itoa_inj h3, tail2_inj l m h4]
theorem join2_inj : ∀ l m : List Int, join2 l = join2 m → l = m
  | [], [], _ => rfl
  | [], x :: m, h => by
    unfold join2 at h
    rw [List.map_nil, List.map_cons, Lib.join_nil, Lib.join_cons] at h
    obtain ⟨c, r, e, _⟩ := itoa_head x
    rw [e] at h; cases h
  | x :: l, [], h => by
    unfold join2 at h
    rw [List.map_nil, List.map_cons, Lib.join_nil, Lib.join_cons] at h
    obtain ⟨c, r, e, _⟩ := itoa_head x
    rw [e] at h; cases h
  | x :: l, y :: m, h => by
    unfold join2 at h
    rw [List.map_cons, List.map_cons, Lib.join_cons, Lib.join_cons] at h
    obtain ⟨h3, h4⟩ := cut_eq _ _ _ _ (itoa_p x) (itoa_p y) (tail_ends _ _) (tail_ends _ _) h
    rw [itoa_inj h3, tail2_inj l m h4]
/-! values -/
def Comma (r : List UInt8) : Prop := Ends (fun c : UInt8 => !(c == 44)) r
def kindOf (c : UInt8) : Int := if c = 34 then 3 else if c = 39 then 4 else if c = 91 then 5 else if c = 110 then 0 else if c = 116 ∨ c = 102 then 2 else 1
theorem name_p (t : ByteArray) (h : nameB t = true) : ∀ c ∈ t.data.toList, (fun c : UInt8 => !(c == 44)) c = true := by
  intro c hc
  obtain ⟨i, hi, e⟩ := List.mem_iff_getElem.1 hc
  unfold nameB at h
  rw [Bool.and_eq_true, List.all_eq_true] at h
  have hi' : i < t.size := by simpa using hi
  have := h.2 i (List.mem_range.2 hi')
  rw [nm_bt_at t i hi'] at this
  have e2 : t[i]'hi' = c := e
  rw [e2] at this
  have h2 := okAt_true this
  have h44 : ¬ c = 44 := fun h => by rw [h] at h2; have : (((44 : UInt8).toNat : Nat) : Int) = 44 := rfl; omega
  simp [h44]
/-- A value's first byte tells its kind. -/
theorem print_head (v : S24) (h : Fine v) : ∃ c l, printL v.f0 v.f1 v.f2 v.f3 = c :: l ∧ kindOf c = v.f0 := by
  obtain ⟨hr, hn, hI⟩ := h
  unfold rightB at hr
  unfold printL
  by_cases h1 : v.f0 = 1
  · rw [if_pos h1]
    obtain ⟨c, l, e, hc⟩ := itoa_head v.f1
    refine ⟨c, l, e, ?_⟩
    have ne : ∀ d : UInt8, c.toNat ≠ d.toNat → ¬ c = d := fun d hn e => hn (by rw [e])
    unfold kindOf
    have q34 : (34 : UInt8).toNat = 34 := rfl
    have q39 : (39 : UInt8).toNat = 39 := rfl
    have q91 : (91 : UInt8).toNat = 91 := rfl
    have q110 : (110 : UInt8).toNat = 110 := rfl
    have q116 : (116 : UInt8).toNat = 116 := rfl
    have q102 : (102 : UInt8).toNat = 102 := rfl
    rw [if_neg (ne 34 (by omega)), if_neg (ne 39 (by omega)), if_neg (ne 91 (by omega)), if_neg (ne 110 (by omega)), if_neg (by
      rintro (h | h)
      · exact ne 116 (by omega) h
      · exact ne 102 (by omega) h), h1]
  · rw [if_neg h1]
    by_cases h2 : v.f0 = 2
    · rw [if_pos h2]
      split
      · exact ⟨_, _, rfl, by rw [h2]; rfl⟩
      · exact ⟨_, _, rfl, by rw [h2]; rfl⟩
    · rw [if_neg h2]
      by_cases h3 : v.f0 = 3
      · rw [if_pos h3, quoted_bytes]
        exact ⟨_, _, rfl, by rw [h3]; rfl⟩
      · rw [if_neg h3]
        by_cases h4 : v.f0 = 4
        · rw [if_pos h4]
          exact ⟨_, _, rfl, by rw [h4]; rfl⟩
        · rw [if_neg h4]
          by_cases h5 : v.f0 = 5
          · rw [if_pos h5]
            exact ⟨_, _, rfl, by rw [h5]; rfl⟩
          · rw [if_neg h5]
            by_cases h0 : v.f0 = 0
            · exact ⟨_, _, rfl, by rw [h0]; rfl⟩
            · simp [h0, h1, h2, h3, h4, h5] at hr
theorem empty_bytes (t : ByteArray) (h : t.size = 0) : t = ByteArray.empty := by
  apply ByteArray.ext
  apply Array.eq_empty_of_size_eq_zero
  exact h
theorem print_inj (v w : S24) (hv : Fine v) (hw : Fine w) (r s : List UInt8) (hr : Comma r) (hs : Comma s) (h : printL v.f0 v.f1 v.f2 v.f3 ++ r = printL w.f0 w.f1 w.f2 w.f3 ++ s) : v = w ∧ r = s := by
  obtain ⟨c, l, e1, k1⟩ := print_head v hv
  obtain ⟨d, m, e2, k2⟩ := print_head w hw
  have hcd : c = d := by rw [e1, e2] at h; exact (List.cons.inj h).1
  have hk : v.f0 = w.f0 := by rw [← k1, ← k2, hcd]
  clear e1 e2 k1 k2 hcd
  obtain ⟨v0, v1, v2, v3⟩ := v
  obtain ⟨w0, w1, w2, w3⟩ := w
  obtain ⟨hvr, _, _⟩ := hv
  obtain ⟨hwr, _, _⟩ := hw
  simp only at hk h hvr hwr
  subst hk
  unfold rightB at hvr hwr
  unfold printL at h
  by_cases h1 : v0 = 1
  · rw [if_pos h1, if_pos h1] at h
    obtain ⟨a, b⟩ := cut_eq _ _ _ _ (itoa_p v1) (itoa_p w1) hr hs h
    have e := itoa_inj a
    simp [h1] at hvr hwr
    refine ⟨?_, b⟩
    rw [e, hvr.1, hwr.1, hvr.2, hwr.2]
  · rw [if_neg h1, if_neg h1] at h
    by_cases h2 : v0 = 2
    · rw [if_pos h2, if_pos h2] at h
      simp [h2] at hvr hwr
      have hn : v1 = w1 ∧ r = s := by
        rcases hvr.1 with a | a <;> rcases hwr.1 with b | b <;> rw [a, b] at h <;> simp at h
        · exact ⟨by rw [a, b], h⟩
        · exact ⟨by rw [a, b], h⟩
      refine ⟨?_, hn.2⟩
      rw [hn.1, hvr.2.1, hwr.2.1, hvr.2.2, hwr.2.2]
    · rw [if_neg h2, if_neg h2] at h
      by_cases h3 : v0 = 3
      · rw [if_pos h3, if_pos h3, quoted_bytes, quoted_bytes] at h
        simp [h3] at hvr hwr
        simp only [List.cons_append, List.append_assoc, List.nil_append] at h
        obtain ⟨a, b⟩ := body_inj _ _ _ _ (List.cons.inj h).2
        refine ⟨?_, b⟩
        rw [hvr.1, hwr.1, hvr.2.2, hwr.2.2, ByteArray.ext (Array.toList_inj.1 a)]
      · rw [if_neg h3, if_neg h3] at h
        by_cases h4 : v0 = 4
        · rw [if_pos h4, if_pos h4] at h
          simp [h4] at hvr hwr
          obtain ⟨a, b⟩ := cut_eq _ _ _ _ (name_p v2 hvr.2) (name_p w2 hwr.2) hr hs (List.cons.inj h).2
          refine ⟨?_, b⟩
          rw [hvr.1.1, hwr.1.1, hvr.1.2, hwr.1.2, ByteArray.ext (Array.toList_inj.1 a)]
        · rw [if_neg h4, if_neg h4] at h
          by_cases h5 : v0 = 5
          · rw [if_pos h5, if_pos h5] at h
            simp [h5] at hvr hwr
            simp only [List.cons_append, List.append_assoc, List.nil_append] at h
            have pj : ∀ l : List Int, ∀ c ∈ join2 l, (fun c : UInt8 => !(c == 93)) c = true := by
              intro l c hc
              have := join2_mem l c hc
              have h93 : ¬ c = 93 := fun h => by rw [h] at this; have e : (93 : UInt8).toNat = 93 := rfl; omega
              simp [h93]
            have pe : ∀ r : List UInt8, Ends (fun c : UInt8 => !(c == 93)) (93 :: r) := by
              intro r d r' h
              rw [← (List.cons.inj h).1]; rfl
            obtain ⟨a, b⟩ := cut_eq _ _ _ _ (pj v3) (pj w3) (pe r) (pe s) (List.cons.inj h).2
            refine ⟨?_, (List.cons.inj b).2⟩
            rw [join2_inj _ _ a, hvr.1, hwr.1, hvr.2.1, hwr.2.1]
          · rw [if_neg h5, if_neg h5] at h
            by_cases h0 : v0 = 0
            · simp [h0] at hvr hwr
              refine ⟨?_, List.append_cancel_left h⟩
              rw [hvr.1, hwr.1, hvr.2.1, hwr.2.1, hvr.2.2, hwr.2.2]
            · simp [h0, h1, h2, h3, h4, h5] at hvr
def prints (l : List S24) : List (List UInt8) := l.map fun v => printL v.f0 v.f1 v.f2 v.f3
theorem keyTail_inj : ∀ l m : List S24, (∀ v ∈ l, Fine v) → (∀ v ∈ m, Fine v) → Lib.joinTail [44] (prints l) = Lib.joinTail [44] (prints m) → l = m
  | [], [], _, _, _ => rfl
  | [], x :: m, _, _, h => by unfold Lib.joinTail prints at h; simp at h
  | x :: l, [], _, _, h => by unfold Lib.joinTail prints at h; simp at h
  | x :: l, y :: m, hl, hm, h => by
    have e : ∀ (x : S24) (l : List S24), Lib.joinTail [44] (prints (x :: l)) = 44 :: (printL x.f0 x.f1 x.f2 x.f3 ++ Lib.joinTail [44] (prints l)) := fun x l => by
      unfold Lib.joinTail prints; simp
    rw [e, e] at h
    obtain ⟨h3, h4⟩ := print_inj x y (hl x List.mem_cons_self) (hm y List.mem_cons_self) _ _ (tail_ends _ _) (tail_ends _ _) (List.cons.inj h).2
    rw [h3, keyTail_inj l m (fun v hv => hl v (List.mem_cons_of_mem _ hv)) (fun v hv => hm v (List.mem_cons_of_mem _ hv)) h4]
theorem key_inj (l m : List S24) (hl0 : l ≠ []) (hm0 : m ≠ []) (hl : ∀ v ∈ l, Fine v) (hm : ∀ v ∈ m, Fine v) (h : keyL l = keyL m) : l = m := by
  obtain ⟨x, l, rfl⟩ := List.exists_cons_of_ne_nil hl0
  obtain ⟨y, m, rfl⟩ := List.exists_cons_of_ne_nil hm0
  unfold keyL at h
  rw [List.map_cons, List.map_cons, Lib.join_cons, Lib.join_cons] at h
  obtain ⟨h3, h4⟩ := print_inj x y (hl x List.mem_cons_self) (hm y List.mem_cons_self) _ _ (tail_ends _ _) (tail_ends _ _) h
  rw [h3, keyTail_inj l m (fun v hv => hl v (List.mem_cons_of_mem _ hv)) (fun v hv => hm v (List.mem_cons_of_mem _ hv)) h4]
/-! SameAll -/
instance : DecidableEq S24 := fun a b => by
  obtain ⟨a0, a1, a2, a3⟩ := a
  obtain ⟨b0, b1, b2, b3⟩ := b
  rw [S24.mk.injEq]
  exact inferInstance
theorem same_eq (v w : S24) : sameB v.f0 v.f1 v.f2 v.f3 w.f0 w.f1 w.f2 w.f3 = decide (v = w) := by
  unfold sameB
  rw [decide_eq_decide]
  obtain ⟨v0, v1, v2, v3⟩ := v
  obtain ⟨w0, w1, w2, w3⟩ := w
  rw [S24.mk.injEq]
theorem sameAll_loop (l m : List S24) (hl : l.length ≤ 4611686018427387904) (hL : ∀ v ∈ l, v.f3.length ≤ 4611686018427387904) (he : l.length = m.length) : ∀ d i : Nat, i + d = l.length → Ev (fun k => switchyardref06_SameAll.l0 k l m (l.length : Int) (i : Int)) (decide (l.drop i = m.drop i)) := by
  intro d
  induction d with
  | zero =>
    intro i hi
    refine Ev.step (fun k => by simp only [switchyardref06_SameAll.l0]; rfl) (Ev.neg (by omega) (Ev.val ?_))
    rw [List.drop_eq_nil_of_le (show l.length ≤ i by omega), List.drop_eq_nil_of_le (show m.length ≤ i by omega)]; simp
  | succ d ih =>
    intro i hi
    have hlt : i < l.length := by omega
    have hml : i < m.length := by omega
    refine Ev.step (fun k => by simp only [switchyardref06_SameAll.l0]; rfl) (Ev.pos (by omega) (Ev.pos (by omega) (Ev.pos (by omega) (Ev.pos (by omega) ?_))))
    rw [rdT_at hlt, rdT_at hml, wr_succ hlt (by omega)]
    refine Ev.bind (ref_same_ev _ _ _ _ _ _ _ _ (hL _ (List.getElem_mem hlt))) ?_
    rw [same_eq, List.drop_eq_getElem_cons hlt, List.drop_eq_getElem_cons hml]
    by_cases h : l[i] = m[i]
    · rw [decide_eq_true h]
      have e : decide (l[i] :: l.drop (i + 1) = m[i] :: m.drop (i + 1)) = decide (l.drop (i + 1) = m.drop (i + 1)) := by
        rw [decide_eq_decide, h]; simp only [List.cons.injEq, true_and]
      rw [e]
      exact Ev.pos rfl (ih (i + 1) (by omega))
    · rw [decide_eq_false h]
      have e : decide (l[i] :: l.drop (i + 1) = m[i] :: m.drop (i + 1)) = false := by rw [decide_eq_false_iff_not]; intro hh; exact h (List.cons.inj hh).1
      rw [e]
      exact Ev.neg (by simp) (Ev.now _)
theorem sameAll_ev (l m : List S24) (hl : l.length ≤ 4611686018427387904) (hL : ∀ v ∈ l, v.f3.length ≤ 4611686018427387904) : Ev (fun k => switchyardref06_SameAll.f k l m) (decide (l = m)) := by
  unfold switchyardref06_SameAll.f
  by_cases he : l.length = m.length
  · refine Ev.pos (by omega) ?_
    have := sameAll_loop l m hl hL he l.length 0 (by omega)
    simpa using this
  · refine Ev.neg (by omega) (Ev.val ?_)
    rw [eq_comm, decide_eq_false_iff_not]; intro h; exact he (by rw [h])
end Go.Proofs.YtdmmgeggljlceaaDoor.XV
