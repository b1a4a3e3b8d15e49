/- Layer 6, in plain words: what the printed functions Name, Right, Print, Key and awake answer. No conditions. -/
import Derived.Test.YtdmmgeggljlceaaDoorXV5
import Derived.Test.YtdmmgeggljlceaaDoorXV7
namespace Go.Proofs.YtdmmgeggljlceaaDoor.XV
open Go.RowKit Go.Proofs.YtdmmgeggljlceaaDoorW.PrintWords Go.Proofs.YtdmmgeggljlceaaDoorW.PrintLast Go.Proofs.YtdmmgeggljlceaaDoorW.PrintMore
set_option linter.unusedVariables false
set_option linter.unusedSimpArgs false

theorem wr_succ {i n : Nat} (h : i < n) (hn : n ≤ 9223372036854775807) : wrap64 ((i : Int) + 1) = ((i + 1 : Nat) : Int) := by
  unfold wrap64; omega
theorem rd_at {l : List Int} {i : Nat} (h : i < l.length) : rd l (i : Int) = l[i] := by
  unfold rd; simp [h]
theorem rdT_at {l : List S24} {i : Nat} (h : i < l.length) : rd_T24 l (i : Int) = l[i] := by
  unfold rd_T24; simp [h]
theorem toList_nil_iff (s : ByteArray) : (s.toList = ([] : List UInt8)) ↔ s.size = 0 := by
  rw [← nm_toList_len]; exact List.length_eq_zero_iff.symm
theorem mkS_toList (l : List UInt8) : (⟨l.toArray⟩ : ByteArray).toList = l := by rw [ByteArray.toList_eq]

theorem Ev.pos {α : Type} {c : Prop} [Decidable c] {f g : Nat → Option α} {r : α} (hc : c) (h : Ev f r) : Ev (fun k => if c then f k else g k) r := Ev.congr (fun _ => if_pos hc) h
theorem Ev.neg {α : Type} {c : Prop} [Decidable c] {f g : Nat → Option α} {r : α} (hc : ¬ c) (h : Ev g r) : Ev (fun k => if c then f k else g k) r := Ev.congr (fun _ => if_neg hc) h
theorem Ev.val {α : Type} {r r' : α} (h : r = r') : Ev (fun _ => some r) r' := h ▸ Ev.now r
theorem Ev.val' {α : Type} {o : Option α} {r : α} (h : o = some r) : Ev (fun _ => o) r := h ▸ Ev.now r
/-! Name -/
theorem letters_eq : ∀ n : Fin 256, (bytesOf (⟨#[97, 98, 99, 100, 101, 102, 103, 104, 105, 106, 107, 108, 109, 110, 111, 112, 113, 114, 115, 116, 117, 118, 119, 120, 121, 122, 65, 66, 67, 68, 69, 70, 71, 72, 73, 74, 75, 76, 77, 78, 79, 80, 81, 82, 83, 84, 85, 86, 87, 88, 89, 90]⟩ : ByteArray)).contains ((n.val : Nat) : Int) = letterB ((n.val : Nat) : Int) := by decide +kernel
theorem digits_eq : ∀ n : Fin 256, (bytesOf (⟨#[48, 49, 50, 51, 52, 53, 54, 55, 56, 57, 95]⟩ : ByteArray)).contains ((n.val : Nat) : Int) = (decide (((n.val : Nat) : Int) = 95) || decide (48 ≤ ((n.val : Nat) : Int) ∧ ((n.val : Nat) : Int) ≤ 57)) := by decide +kernel
theorem in_loop (c : Int) (s : ByteArray) (hs : s.size ≤ 9223372036854775807) : ∀ d i : Nat, i + d = s.size → Ev (fun k => switchyardref06_in.l0 k c s (i : Int)) (((bytesOf s).drop i).contains c) := by
  intro d
  induction d with
  | zero =>
    intro i hi
    refine Ev.step (f := fun _ => some (((bytesOf s).drop i).contains c)) (fun k => ?_) (Ev.now _)
    have e : (bytesOf s).drop i = [] := List.drop_eq_nil_of_le (by simp [bytesOf]; omega)
    simp only [switchyardref06_in.l0]
    rw [if_neg (by omega), e]; rfl
  | succ d ih =>
    intro i hi
    have hlt : i < s.size := by omega
    have hl : i < (bytesOf s).length := by simp [bytesOf]; omega
    have hb : (bytesOf s)[i] = bt s i := by simp [bytesOf, bt, hlt]; rfl
    rw [List.drop_eq_getElem_cons hl, hb]
    by_cases hc : bt s i = c
    · refine Ev.step (f := fun _ => some true) (fun k => ?_) ?_
      · simp only [switchyardref06_in.l0]
        rw [if_pos (by omega), if_pos (by omega), if_pos hc]
      · rw [show (bt s i :: (bytesOf s).drop (i + 1)).contains c = true by simp [hc]]
        exact Ev.now _
    · refine Ev.step (f := fun k => switchyardref06_in.l0 k c s ((i + 1 : Nat) : Int)) (fun k => ?_) ?_
      · simp only [switchyardref06_in.l0]
        rw [if_pos (by omega), if_pos (by omega), if_neg hc, wr_succ hlt hs]
      · have := ih (i + 1) (by omega)
        rw [show (bt s i :: (bytesOf s).drop (i + 1)).contains c = ((bytesOf s).drop (i + 1)).contains c by
          rw [List.contains_cons]; have : (c == bt s i) = false := by simp; exact fun e => hc e.symm
          rw [this]; rfl]
        exact this
theorem in_ev (c : Int) (s : ByteArray) (hs : s.size ≤ 9223372036854775807) : Ev (fun k => switchyardref06_in.f k c s) ((bytesOf s).contains c) := by
  have := in_loop c s hs s.size 0 (by omega)
  simpa [switchyardref06_in.f] using this
theorem bt_fin (s : ByteArray) (i : Nat) : ∃ n : Fin 256, bt s (i : Int) = ((n.val : Nat) : Int) := by
  have h := qt_bt_range s i
  exact ⟨⟨(bt s i).toNat, by omega⟩, by simp; omega⟩
theorem okAt_eq (s : ByteArray) (i : Nat) : okAt i (bt s i) = (letterB (bt s i) || (decide (i ≠ 0) && (bytesOf (⟨#[48, 49, 50, 51, 52, 53, 54, 55, 56, 57, 95]⟩ : ByteArray)).contains (bt s i))) := by
  obtain ⟨n, hn⟩ := bt_fin s i
  rw [hn, digits_eq]; rfl
theorem name_loop (s : ByteArray) (hs : s.size ≤ 9223372036854775807) : ∀ d i : Nat, i + d = s.size → ∀ ok : Bool, Ev (fun k => switchyardref06_Name.l0 k s ok (i : Int)) (ok && (List.range d).all fun j => okAt (i + j) (bt s ((i + j : Nat) : Int))) := by
  intro d
  induction d with
  | zero =>
    intro i hi ok
    refine Ev.step (f := fun k => switchyardref06_Name.j2 k s ok (i : Int) false) (fun k => by simp only [switchyardref06_Name.l0]; rw [if_neg (by omega)]) ?_
    refine Ev.step (f := fun _ => some ok) (fun k => by simp only [switchyardref06_Name.j2]; rfl) ?_
    simpa using Ev.now ok
  | succ d ih =>
    intro i hi ok
    have hlt : i < s.size := by omega
    refine Ev.step (f := fun k => switchyardref06_Name.j2 k s ok (i : Int) ok) (fun k => by simp only [switchyardref06_Name.l0]; rw [if_pos (by omega)]) ?_
    cases ok with
    | false => exact Ev.step (f := fun _ => some false) (fun k => by simp only [switchyardref06_Name.j2]; rfl) (by simpa using Ev.now false)
    | true =>
      have hall : ((List.range (d + 1)).all fun j => okAt (i + j) (bt s ((i + j : Nat) : Int))) = (okAt i (bt s i) && (List.range d).all fun j => okAt (i + 1 + j) (bt s ((i + 1 + j : Nat) : Int))) := by
        rw [List.range_succ_eq_map, List.all_cons, List.all_map]
        congr 1
        congr 1
        funext j
        simp only [Function.comp]
        rw [show i + Nat.succ j = i + 1 + j by omega]
      rw [hall, Bool.true_and]
      refine Ev.step (f := fun k => (switchyardref06_in.f k (bt s i) (⟨#[97, 98, 99, 100, 101, 102, 103, 104, 105, 106, 107, 108, 109, 110, 111, 112, 113, 114, 115, 116, 117, 118, 119, 120, 121, 122, 65, 66, 67, 68, 69, 70, 71, 72, 73, 74, 75, 76, 77, 78, 79, 80, 81, 82, 83, 84, 85, 86, 87, 88, 89, 90]⟩ : ByteArray)).bind fun t131 => (if t131 = true then (switchyardref06_Name.l0 k s true (wrap64 ((i : Int) + 1))) else (if (i : Int) > 0 then ((switchyardref06_in.f k (bt s i) (⟨#[48, 49, 50, 51, 52, 53, 54, 55, 56, 57, 95]⟩ : ByteArray)).bind fun t132 => (switchyardref06_Name.l0 k s t132 (wrap64 ((i : Int) + 1)))) else (switchyardref06_Name.l0 k s false (wrap64 ((i : Int) + 1)))))) (fun k => by simp only [switchyardref06_Name.j2, if_true]; rw [if_pos (by omega), if_pos (by omega)]) ?_
      rw [wr_succ hlt hs]
      refine Ev.bind (in_ev _ _ (by decide)) ?_
      obtain ⟨n, hn⟩ := bt_fin s i
      rw [hn, letters_eq, ← hn, okAt_eq]
      cases hL : letterB (bt s i) with
      | true => simpa using ih (i + 1) (by omega) true
      | false =>
        by_cases h0 : i = 0
        · subst h0
          simpa using ih 1 (by omega) false
        · simp only [Bool.false_eq_true, if_false, Bool.false_or]
          refine Ev.pos (by omega) ?_
          refine Ev.bind (in_ev _ _ (by decide)) ?_
          have h0' : decide (i ≠ 0) = true := by simp [h0]
          rw [h0', Bool.true_and]
          exact ih (i + 1) (by omega) _
theorem name_ev (s : ByteArray) (hs : s.size ≤ 9223372036854775807) : Ev (fun k => switchyardref06_Name.f k s) (nameB s) := by
  unfold switchyardref06_Name.f nameB
  by_cases h0 : 0 < s.size
  · have e : ((s.size : Int) > 0) = True := eq_true (by omega)
    have e2 : decide ((s.size : Int) ≤ 24) = decide (0 < s.size ∧ s.size ≤ 24) := by
      rw [decide_eq_decide]; omega
    simp only [e, if_true, e2]
    refine Ev.step (fun k => by simp only [switchyardref06_Name.j0]; rfl) ?_
    have := name_loop s hs s.size 0 (by omega) (decide (0 < s.size ∧ s.size ≤ 24))
    simpa using this
  · have e : ((s.size : Int) > 0) = False := eq_false (by omega)
    have e2 : decide (0 < s.size ∧ s.size ≤ 24) = false := by simp [h0]
    simp only [e, if_false, e2, Bool.false_and]
    refine Ev.step (fun k => by simp only [switchyardref06_Name.j0]; rfl) ?_
    have := name_loop s hs s.size 0 (by omega) false
    simpa using this

/-! Right -/
def rightB (a n : Int) (t : ByteArray) (l : List Int) : Bool :=
  if a = 0 then decide (n = 0 ∧ t.size = 0 ∧ l.length = 0) else if a = 1 then decide (t.size = 0 ∧ l.length = 0) else if a = 2 then decide ((n = 0 ∨ n = 1) ∧ t.size = 0 ∧ l.length = 0)
  else if a = 3 then decide (n = 0 ∧ t.size ≤ 64 ∧ l.length = 0) else if a = 4 then decide (n = 0 ∧ l.length = 0) && nameB t else if a = 5 then decide (n = 0 ∧ t.size = 0 ∧ l.length ≤ 16) else false
theorem right_code (a n : Int) (t : ByteArray) (l : List Int) : value_Right.f a n t l = some (rightB a n t l) := by
  unfold value_Right.f rightB
  simp only [toList_nil_iff, value_Name.f, Option.bind_some]
  have e0 : ((l.length : Int) == 0) = decide (l.length = 0) := by rw [Bool.eq_iff_iff]; simp
  rw [e0]
  repeat' split
  all_goals (try simp_all)
  all_goals (try omega)
theorem right_ev (a n : Int) (t : ByteArray) (l : List Int) (ht : t.size ≤ 9223372036854775807) : Ev (fun k => switchyardref06_Right.f k a n t l) (rightB a n t l) := by
  have tail : ∀ b : Bool, b = (decide (¬ (a = 1) ∧ ¬ (a = 2) ∧ n ≠ 0) || decide (a = 2 ∧ n ≠ 0 ∧ n ≠ 1)) → 0 ≤ a → a ≤ 5 → Ev (fun k => switchyardref06_Right.j1 k b a n t l) (rightB a n t l) := by
    intro b hb h0 h5
    refine Ev.step (fun k => by simp only [switchyardref06_Right.j1]; rfl) ?_
    unfold rightB
    by_cases h : b = true
    · refine Ev.pos h (Ev.val ?_)
      rw [hb] at h
      simp at h
      repeat' split
      all_goals simp_all
    · refine Ev.neg h ?_
      rw [hb] at h
      simp at h
      by_cases h3 : a = 3
      · refine Ev.pos h3 ?_
        have hn : n = 0 := h.1 (by omega) (by omega)
        by_cases h64 : (t.size : Int) > 64
        · exact Ev.pos h64 (Ev.val (by subst h3; simp; omega))
        · refine Ev.neg h64 (Ev.neg (by omega) (Ev.neg (by omega) ?_))
          by_cases hl : (l.length : Int) = 0
          · have hl' : l = [] := List.length_eq_zero_iff.1 (by omega)
            exact Ev.pos hl (Ev.val (by subst h3; simp [hn, hl']; omega))
          · have hl' : ¬ l = [] := fun e => hl (by rw [e]; rfl)
            exact Ev.neg hl (Ev.val (by subst h3; simp [hn, hl']))
      · refine Ev.neg h3 ?_
        by_cases h4 : a = 4
        · refine Ev.pos h4 (Ev.bind (name_ev t ht) ?_)
          have hn : n = 0 := h.1 (by omega) (by omega)
          subst h4
          cases hN : nameB t with
          | false => exact Ev.neg (by simp) (Ev.val (by simp))
          | true =>
            refine Ev.pos rfl (Ev.neg (by omega) ?_)
            by_cases hl : (l.length : Int) = 0
            · have hl' : l = [] := List.length_eq_zero_iff.1 (by omega)
              exact Ev.pos hl (Ev.val (by simp [hn, hl']))
            · have hl' : ¬ l = [] := fun e => hl (by rw [e]; rfl)
              exact Ev.neg hl (Ev.val (by simp [hn, hl']))
        · refine Ev.neg h4 ?_
          by_cases ht0 : (t.size : Int) > 0
          · refine Ev.pos ht0 (Ev.val ?_)
            have : ¬ (t.size = 0) := by omega
            simp [this, h3, h4]
          · have ht1 : t.size = 0 := by omega
            refine Ev.neg ht0 ?_
            by_cases h5 : a = 5
            · refine Ev.pos h5 (Ev.val ?_)
              have hn : n = 0 := h.1 (by omega) (by omega)
              subst h5
              simp [hn, ht1]
              omega
            · refine Ev.neg h5 ?_
              have : a = 0 ∨ a = 1 ∨ a = 2 := by omega
              by_cases hl : (l.length : Int) = 0
              · refine Ev.pos hl (Ev.val ?_)
                have hl' : l.length = 0 := by omega
                rcases this with e | e | e <;> subst e <;> simp_all
                omega
              · refine Ev.neg hl (Ev.val ?_)
                have hl' : ¬ l.length = 0 := by omega
                rcases this with e | e | e <;> subst e <;> simp_all
  have mid : ∀ b : Bool, b = decide (a < 0 ∨ 5 < a) → Ev (fun k => switchyardref06_Right.j0 k b a n t l) (rightB a n t l) := by
    intro b hb
    refine Ev.step (fun k => by simp only [switchyardref06_Right.j0]; rfl) ?_
    by_cases h : b = true
    · refine Ev.pos h (Ev.val ?_)
      rw [hb] at h
      have := of_decide_eq_true h
      unfold rightB
      repeat' split
      all_goals (first | rfl | omega)
    · refine Ev.neg h ?_
      have hb' : ¬ (a < 0 ∨ 5 < a) := by
        intro hh; exact h (by rw [hb]; exact decide_eq_true hh)
      have h0 : 0 ≤ a := by omega
      have h5 : a ≤ 5 := by omega
      by_cases h1 : a = 1
      · exact Ev.pos h1 (Ev.neg (by omega) (tail _ (by simp [h1]) h0 h5))
      · refine Ev.neg h1 ?_
        by_cases h2 : a = 2
        · refine Ev.pos h2 ?_
          by_cases hn : n = 0
          · exact Ev.pos hn (tail _ (by simp [h2, hn]) h0 h5)
          · refine Ev.neg hn (tail _ ?_ h0 h5)
            rw [Bool.eq_iff_iff]; simp [h1, h2, hn]
        · refine Ev.neg h2 ?_
          by_cases hn : n = 0
          · exact Ev.pos hn (tail _ (by simp [h1, h2, hn]) h0 h5)
          · exact Ev.neg hn (tail _ (by simp [h1, h2, hn]) h0 h5)
  unfold switchyardref06_Right.f
  by_cases h : a < 0
  · exact Ev.pos h (mid _ (by simp [h]))
  · exact Ev.neg h (mid _ (by rw [decide_eq_decide]; omega))

/-! Print, Key -/
def bs (l : List Int) : List UInt8 := l.map fun n => UInt8.ofNat n.toNat
def join2 (l : List Int) : List UInt8 := Lib.join (l.map Lib.itoa) [44, 32]
def printL (a n : Int) (t : ByteArray) (l : List Int) : List UInt8 :=
  if a = 1 then Lib.itoa n else if a = 2 then (if n = 1 then [116, 114, 117, 101] else [102, 97, 108, 115, 101]) else if a = 3 then bs (quotedL t) else if a = 4 then 39 :: t.data.toList
  else if a = 5 then 91 :: (join2 l ++ [93]) else [110, 111, 110, 101]
theorem quoted_len (t : ByteArray) (h : t.size ≤ 64) : (quotedL t).length ≤ 258 := by
  unfold quotedL
  have := qt_flat_len (bytesOf t)
  have h2 : (bytesOf t).length = t.size := by simp [bytesOf]
  simp only [List.length_append, List.length_cons, List.length_nil]
  omega
theorem dig1 (n : Nat) (h : n < 10) : Lib.decDigits n = [UInt8.ofNat (48 + n)] := by rw [Lib.decDigits, dif_pos h]
theorem cat_bytes (a b : List UInt8) : (⟨a.toArray⟩ : ByteArray) ++ ⟨b.toArray⟩ = ⟨(a ++ b).toArray⟩ := by
  apply ByteArray.ext
  simp
theorem wrap_bytes (x : List UInt8) : ((⟨#[91]⟩ : ByteArray) ++ ⟨x.toArray⟩) ++ ⟨#[93]⟩ = ⟨(91 :: (x ++ [93])).toArray⟩ := by
  apply ByteArray.ext
  simp
theorem digits_le (n : Nat) : ∀ k, n < 10 ^ (k + 1) → (Lib.decDigits n).length ≤ k + 1 := by
  intro k
  induction k generalizing n with
  | zero => intro h; rw [dig1 n (by simpa using h)]; simp
  | succ k ih =>
    intro h
    rw [Lib.decDigits]
    split
    · simp
    · have := ih (n / 10) (by rw [Nat.pow_succ] at h; omega)
      simp only [List.length_append, List.length_singleton]
      omega
theorem itoa_len (n : Int) (h0 : -9223372036854775808 ≤ n) (h1 : n ≤ 9223372036854775807) : (Lib.itoa n).length ≤ 20 := by
  unfold Lib.itoa
  split
  · have := digits_le n.natAbs 18 (by omega)
    simp only [List.length_cons]; omega
  · have := digits_le n.toNat 18 (by omega)
    omega
theorem join_len (sep : List UInt8) (m : Nat) (xs : List (List UInt8)) (h : ∀ x ∈ xs, x.length ≤ m) : (Lib.join xs sep).length ≤ xs.length * (m + sep.length) := by
  cases xs with
  | nil => simp [Lib.join_nil]
  | cons x r =>
    rw [Lib.join_cons]
    have hr : ∀ r : List (List UInt8), (∀ x ∈ r, x.length ≤ m) → (Lib.joinTail sep r).length ≤ r.length * (m + sep.length) := by
      intro r hr
      induction r with
      | nil => simp [Lib.joinTail]
      | cons y r ih =>
        have h1 := ih (fun z hz => hr z (List.mem_cons_of_mem _ hz))
        have h2 := hr y List.mem_cons_self
        unfold Lib.joinTail at h1 ⊢
        simp only [List.map_cons, List.flatten_cons, List.length_append, List.length_cons, Nat.succ_mul]
        omega
    have h1 := hr r (fun z hz => h z (List.mem_cons_of_mem _ hz))
    have h2 := h x List.mem_cons_self
    simp only [List.length_append, List.length_cons, Nat.succ_mul]
    omega
def Ints (l : List Int) : Prop := ∀ x ∈ l, -9223372036854775808 ≤ x ∧ x ≤ 9223372036854775807
theorem fmt_code (n : Int) (h0 : -9223372036854775808 ≤ n) (h1 : n ≤ 9223372036854775807) : strconv_FormatInt.f n 10 = some ⟨(Lib.itoa n).toArray⟩ := by
  unfold strconv_FormatInt.f
  rw [if_pos rfl, if_pos h0, if_pos h1]
theorem strs_map (l : List (List UInt8)) : (l.map fun x => (⟨x.toArray⟩ : ByteArray)).map (·.data.toList) = l := by simp [Function.comp_def]
theorem join_code (xs : List (List UInt8)) (sep : List UInt8) (h1 : xs.length ≤ 140737488355328) (h2 : (Lib.join xs sep).length ≤ 140737488355328) : strings_Join.f (xs.map fun x => (⟨x.toArray⟩ : ByteArray)) ⟨sep.toArray⟩ = some ⟨(Lib.join xs sep).toArray⟩ := by
  unfold strings_Join.f
  rw [strs_map, if_pos (by simpa using h1)]
  exact if_pos h2
theorem size_mk (l : List UInt8) : (⟨l.toArray⟩ : ByteArray).size = l.length := by show l.toArray.size = _; simp
theorem print_loop (l : List Int) (hl : l.length ≤ 16) (hI : Ints l) : ∀ d i : Nat, i + d = l.length → Ev (fun k => value_Print.l0 k ((l.take i).map fun n => (⟨(Lib.itoa n).toArray⟩ : ByteArray)) l (l.length : Int) (i : Int)) ⟨(91 :: (join2 l ++ [93])).toArray⟩ := by
  intro d
  induction d with
  | zero =>
    intro i hi
    refine Ev.step (fun k => by simp only [value_Print.l0]; rfl) ?_
    refine Ev.neg (by omega) ?_
    rw [List.take_of_length_le (by omega)]
    have hj : (join2 l).length ≤ 16 * 22 := by
      have := join_len [44, 32] 20 (l.map Lib.itoa) (fun x hx => by
        obtain ⟨n, hn, rfl⟩ := List.mem_map.1 hx
        exact itoa_len n (hI n hn).1 (hI n hn).2)
      unfold join2
      rw [List.length_map] at this
      simp only [List.length_cons, List.length_nil] at this
      omega
    have e : (l.map fun n => (⟨(Lib.itoa n).toArray⟩ : ByteArray)) = (l.map Lib.itoa).map fun x => (⟨x.toArray⟩ : ByteArray) := by simp
    have ej := join_code (l.map Lib.itoa) [44, 32] (by rw [List.length_map]; omega) (by show (join2 l).length ≤ _; omega)
    rw [e]
    refine Ev.bind (a := ⟨(join2 l).toArray⟩) (Ev.val' ej) ?_
    refine Ev.pos (by rw [size_mk]; omega) (Ev.pos (by rw [show (⟨#[91]⟩ : ByteArray) = ⟨([91] : List UInt8).toArray⟩ from rfl, cat_bytes, size_mk]; simp; omega) (Ev.val ?_))
    exact wrap_bytes _
  | succ d ih =>
    intro i hi
    have hlt : i < l.length := by omega
    refine Ev.step (fun k => by simp only [value_Print.l0]; rfl) ?_
    refine Ev.pos (by omega) (Ev.pos (by omega) (Ev.pos (by omega) ?_))
    have hm := hI _ (List.getElem_mem hlt)
    rw [rd_at hlt, fmt_code _ hm.1 hm.2]
    refine Ev.pos (by simp; omega) ?_
    rw [wr_succ hlt (by omega)]
    have := ih (i + 1) (by omega)
    rw [List.take_succ_eq_append_getElem hlt, List.map_append] at this
    exact this
theorem print_ev (a n : Int) (t : ByteArray) (l : List Int) (hr : rightB a n t l = true) (hn0 : -9223372036854775808 ≤ n) (hn1 : n ≤ 9223372036854775807) (hI : Ints l) : Ev (fun k => value_Print.f k a n t l) ⟨(printL a n t l).toArray⟩ := by
  unfold value_Print.f printL
  unfold rightB at hr
  by_cases h1 : a = 1
  · refine Ev.pos h1 ?_
    rw [if_pos h1, fmt_code n hn0 hn1]
    exact Ev.now _
  · refine Ev.neg h1 ?_
    rw [if_neg h1]
    by_cases h2 : a = 2
    · refine Ev.pos h2 ?_
      rw [if_pos h2]
      unfold strconv_FormatBool_30.f strconv_FormatBool_44.f
      by_cases e : n = 1
      · rw [if_pos e, if_pos (by simp [e])]; exact Ev.now _
      · rw [if_neg e, if_neg (by simp [e])]; exact Ev.now _
    · refine Ev.neg h2 ?_
      rw [if_neg h2]
      by_cases h3 : a = 3
      · subst h3
        simp at hr
        refine Ev.pos rfl ?_
        rw [if_pos rfl]
        unfold value_quoted.f
        rw [if_pos (by omega)]
        exact Ev.now _
      · refine Ev.neg h3 ?_
        rw [if_neg h3]
        by_cases h4 : a = 4
        · subst h4
          simp at hr
          have hs : t.size ≤ 24 := by
            have := hr.2
            unfold nameB at this
            simp at this
            omega
          refine Ev.pos rfl (Ev.pos (by omega) (Ev.val ?_))
          rw [if_pos rfl]
          apply ByteArray.ext
          simp
        · refine Ev.neg h4 ?_
          rw [if_neg h4]
          by_cases h5 : a = 5
          · subst h5
            simp at hr
            refine Ev.pos rfl ?_
            rw [if_pos rfl]
            have := print_loop l (by omega) hI l.length 0 (by omega)
            simpa using this
          · refine Ev.neg h5 ?_
            rw [if_neg h5]
            exact Ev.now _
def keyL (l : List S24) : List UInt8 := Lib.join (l.map fun v => printL v.f0 v.f1 v.f2 v.f3) [44]
/-- A value that may be, and its numbers are int64. -/
def Fine (v : S24) : Prop := rightB v.f0 v.f1 v.f2 v.f3 = true ∧ (-9223372036854775808 ≤ v.f1 ∧ v.f1 ≤ 9223372036854775807) ∧ Ints v.f3
theorem print_len (v : S24) (h : Fine v) : (printL v.f0 v.f1 v.f2 v.f3).length ≤ 400 := by
  obtain ⟨hr, hn, hI⟩ := h
  unfold rightB at hr
  unfold printL
  by_cases h1 : v.f0 = 1
  · rw [if_pos h1]; have := itoa_len v.f1 hn.1 hn.2; omega
  · rw [if_neg h1]
    by_cases h2 : v.f0 = 2
    · rw [if_pos h2]; split <;> simp
    · rw [if_neg h2]
      by_cases h3 : v.f0 = 3
      · rw [if_pos h3]
        simp [h3] at hr
        have := quoted_len v.f2 (by omega)
        simp only [bs, List.length_map]; omega
      · rw [if_neg h3]
        by_cases h4 : v.f0 = 4
        · rw [if_pos h4]
          simp [h4] at hr
          have hs : v.f2.size ≤ 24 := by
            have := hr.2
            unfold nameB at this
            simp at this
            omega
          simp; omega
        · rw [if_neg h4]
          by_cases h5 : v.f0 = 5
          · rw [if_pos h5]
            simp [h5] at hr
            have := join_len [44, 32] 20 (v.f3.map Lib.itoa) (fun x hx => by
              obtain ⟨n, hn, rfl⟩ := List.mem_map.1 hx
              exact itoa_len n (hI n hn).1 (hI n hn).2)
            rw [List.length_map] at this
            simp only [List.length_cons, List.length_nil] at this
            unfold join2
            simp only [List.length_cons, List.length_append, List.length_nil]
            omega
          · rw [if_neg h5]; simp
theorem key_loop (l : List S24) (hl : l.length ≤ 1000) (hF : ∀ v ∈ l, Fine v) : ∀ d i : Nat, i + d = l.length → Ev (fun k => value_Key.l0 k ((l.take i).map fun v => (⟨(printL v.f0 v.f1 v.f2 v.f3).toArray⟩ : ByteArray)) l (l.length : Int) (i : Int)) ⟨(keyL l).toArray⟩ := by
  intro d
  induction d with
  | zero =>
    intro i hi
    refine Ev.step (fun k => by simp only [value_Key.l0]; rfl) ?_
    refine Ev.neg (by omega) ?_
    rw [List.take_of_length_le (by omega)]
    have e : (l.map fun v => (⟨(printL v.f0 v.f1 v.f2 v.f3).toArray⟩ : ByteArray)) = (l.map fun v => printL v.f0 v.f1 v.f2 v.f3).map fun x => (⟨x.toArray⟩ : ByteArray) := by simp
    have hj := join_len [44] 400 (l.map fun v => printL v.f0 v.f1 v.f2 v.f3) (fun x hx => by
      obtain ⟨v, hv, rfl⟩ := List.mem_map.1 hx
      exact print_len v (hF v hv))
    rw [List.length_map] at hj
    simp only [List.length_cons, List.length_nil] at hj
    have ej := join_code (l.map fun v => printL v.f0 v.f1 v.f2 v.f3) [44] (by rw [List.length_map]; omega) (by omega)
    rw [e]
    exact Ev.bind (Ev.val' ej) (Ev.now _)
  | succ d ih =>
    intro i hi
    have hlt : i < l.length := by omega
    refine Ev.step (fun k => by simp only [value_Key.l0]; rfl) ?_
    refine Ev.pos (by omega) (Ev.pos (by omega) (Ev.pos (by omega) ?_))
    have hm := hF _ (List.getElem_mem hlt)
    rw [rdT_at hlt]
    refine Ev.bind (print_ev _ _ _ _ hm.1 hm.2.1.1 hm.2.1.2 hm.2.2) (Ev.pos (by simp; omega) ?_)
    rw [wr_succ hlt (by omega)]
    have := ih (i + 1) (by omega)
    rw [List.take_succ_eq_append_getElem hlt, List.map_append] at this
    exact this
theorem key_ev (l : List S24) (hl : l.length ≤ 1000) (hF : ∀ v ∈ l, Fine v) : Ev (fun k => value_Key.f k l) ⟨(keyL l).toArray⟩ := by
  have := key_loop l hl hF l.length 0 (by omega)
  simpa [value_Key.f] using this
theorem awake_ev : Ev (fun k => switchyardlaw06_awake.f k) true := by
  unfold switchyardlaw06_awake.f
  refine Ev.bind (print_ev 3 0 ⟨#[97, 34, 98, 10]⟩ [] (by decide) (by decide) (by decide) (fun x hx => by cases hx)) ?_
  refine Ev.pos (by rw [mkS_toList]; decide +kernel) ?_
  refine Ev.bind (key_ev [(⟨1, 1, ⟨#[]⟩, []⟩ : S24), (⟨5, 0, ⟨#[]⟩, [2, 3]⟩ : S24)] (by decide) ?_) ?_
  · intro v hv
    rcases List.mem_cons.1 hv with rfl | hv
    · exact ⟨by decide, by decide, fun x hx => by cases hx⟩
    · rw [List.mem_singleton.1 hv]
      exact ⟨by decide, by decide, fun x hx => by
        rcases List.mem_cons.1 hx with rfl | hx
        · decide
        · rw [List.mem_singleton.1 hx]; decide⟩
  · have i1 : Lib.itoa 1 = [49] := by
      show Lib.decDigits 1 = _; rw [dig1 1 (by omega)]; rfl
    have i2 : Lib.itoa 2 = [50] := by
      show Lib.decDigits 2 = _; rw [dig1 2 (by omega)]; rfl
    have i3 : Lib.itoa 3 = [51] := by
      show Lib.decDigits 3 = _; rw [dig1 3 (by omega)]; rfl
    have e : keyL [(⟨1, 1, ⟨#[]⟩, []⟩ : S24), (⟨5, 0, ⟨#[]⟩, [2, 3]⟩ : S24)] = [49, 44, 91, 50, 44, 32, 51, 93] := by
      unfold keyL
      have p1 : printL 1 1 ⟨#[]⟩ [] = [49] := by unfold printL; rw [if_pos rfl, i1]
      have p2 : printL 5 0 ⟨#[]⟩ [2, 3] = [91, 50, 44, 32, 51, 93] := by
        have : join2 [2, 3] = [50, 44, 32, 51] := by unfold join2; rw [List.map_cons, List.map_cons, List.map_nil, i2, i3]; rfl
        unfold printL
        rw [if_neg (by decide), if_neg (by decide), if_neg (by decide), if_neg (by decide), if_pos rfl, this]; rfl
      simp only [List.map_cons, List.map_nil, p1, p2]
      rfl
    rw [e]
    refine Ev.pos (by rw [mkS_toList]) ?_
    rw [right_code, right_code]
    exact Ev.val (by decide)
end Go.Proofs.YtdmmgeggljlceaaDoor.XV
