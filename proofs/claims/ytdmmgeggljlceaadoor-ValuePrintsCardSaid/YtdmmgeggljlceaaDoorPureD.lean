/- Layer 6, in plain words: the document's Print and Key, and both Twins. Conditions: values that may be. -/
import Derived.Test.YtdmmgeggljlceaaDoorXV13
import Derived.Test.YtdmmgeggljlceaaDoorXV14
import Derived.Test.YtdmmgeggljlceaaDoorXV15
import Derived.Test.YtdmmgeggljlceaaDoorPureA
namespace Go.Proofs.YtdmmgeggljlceaaDoor.XV
open Go.RowKit Go.Proofs.YtdmmgeggljlceaaDoorW.PrintWords Go.Proofs.YtdmmgeggljlceaaDoorW.PrintLast Go.Proofs.YtdmmgeggljlceaaDoorW.PrintMore
set_option linter.unusedVariables false
set_option linter.unusedSimpArgs false
theorem hex_all : ∀ n : Fin 256, bt (⟨#[48, 49, 50, 51, 52, 53, 54, 55, 56, 57, 97, 98, 99, 100, 101, 102]⟩ : ByteArray) ((Int.tdiv ((n.val : Nat) : Int) 16) % 256) = hexd (((n.val : Nat) : Int) / 16) ∧ bt (⟨#[48, 49, 50, 51, 52, 53, 54, 55, 56, 57, 97, 98, 99, 100, 101, 102]⟩ : ByteArray) (Int.tmod ((n.val : Nat) : Int) 16) = hexd (((n.val : Nat) : Int) % 16) := by decide +kernel
theorem take_flat (t : ByteArray) (i : Nat) (h : i < t.size) : ((bytesOf t).take (i + 1)).flatMap qb = ((bytesOf t).take i).flatMap qb ++ qb (bt t i) := by
  rw [qt_bt_take t i h, List.flatMap_append]; simp
theorem flat_len (t : ByteArray) (i : Nat) : (((bytesOf t).take i).flatMap qb).length ≤ 4 * i := by
  have := qt_flat_len ((bytesOf t).take i)
  have h2 : ((bytesOf t).take i).length ≤ i := List.length_take_le _ _
  omega
theorem ref_quoted_loop (a n : Int) (t : ByteArray) (l : List Int) (ht : t.size ≤ 64) : ∀ d i : Nat, i + d = t.size → Ev (fun k => switchyardref06_Print.l0 k (34 :: ((bytesOf t).take i).flatMap qb) (i : Int) a n t l) (strOfNums (quotedL t)) := by
  intro d
  induction d with
  | zero =>
    intro i hi
    have hl := flat_len t i
    refine Ev.step (fun k => by simp only [switchyardref06_Print.l0]; rfl) (Ev.neg (by omega) (Ev.pos (by simp only [List.length_cons]; omega) (Ev.val ?_)))
    rw [List.take_of_length_le (by rw [bytesOf_length]; omega)]; rfl
  | succ d ih =>
    intro i hi
    have hlt : i < t.size := by omega
    have hl := flat_len t i
    have next := ih (i + 1) (by omega)
    rw [take_flat t i hlt] at next
    obtain ⟨m, hm⟩ := bt_fin t i
    have hx := hex_all m
    rw [← hm] at hx
    have hb := bt_range t i
    refine Ev.step (fun k => by simp only [switchyardref06_Print.l0]; rfl) (Ev.pos (by omega) (Ev.pos (by omega) ?_))
    have body : ∀ b : Bool, b = decide (bt t i < 32 ∨ 126 < bt t i) → Ev (fun k => switchyardref06_Print.j2 k (34 :: ((bytesOf t).take i).flatMap qb) (i : Int) (bt t i) b a n t l) (strOfNums (quotedL t)) := by
      intro b hbb
      refine Ev.step (fun k => by simp only [switchyardref06_Print.j2]; rfl) ?_
      rw [wr_succ hlt (by omega)]
      cases b with
      | true =>
        have h := of_decide_eq_true hbb.symm
        rw [show qb (bt t i) = [92, 120, hexd (bt t i / 16), hexd (bt t i % 16)] by unfold qb; rw [if_pos h]] at next
        have ed : Int.tdiv (bt t i) 16 = bt t i / 16 := Int.tdiv_eq_ediv_of_nonneg hb.1
        have em : Int.tmod (bt t i) 16 = bt t i % 16 := Int.tmod_eq_emod_of_nonneg hb.1
        rw [hx.1, hx.2, ed, em]
        refine Ev.pos rfl (Ev.pos (by simp only [List.length_cons]; omega) (Ev.bind (Ev.now _) (Ev.pos (by simp only [List.length_cons, List.length_append, List.length_nil]; omega) (Ev.bind (Ev.now _) ?_))))
        refine Ev.pos (by omega) (Ev.pos (by omega) (Ev.pos (by simp only [List.length_cons, List.length_append, List.length_nil]; omega) (Ev.bind (Ev.now _) ?_)))
        refine Ev.pos (by omega) (Ev.pos (by omega) (Ev.pos (by simp only [List.length_cons, List.length_append, List.length_nil]; omega) ?_))
        simpa using next
      | false =>
        have h := of_decide_eq_false hbb.symm
        have e0 : qb (bt t i) = if bt t i = 34 ∨ bt t i = 92 then [92, bt t i] else [bt t i] := by unfold qb; rw [if_neg h]
        rw [e0] at next
        refine Ev.neg (by simp) ?_
        by_cases h34 : bt t i = 34
        · rw [if_pos (Or.inl h34)] at next
          refine Ev.pos h34 (Ev.pos (by simp only [List.length_cons]; omega) (Ev.bind (Ev.now _) (Ev.pos (by simp only [List.length_cons, List.length_append, List.length_nil]; omega) ?_)))
          simpa using next
        · refine Ev.neg h34 ?_
          by_cases h92 : bt t i = 92
          · rw [if_pos (Or.inr h92)] at next
            refine Ev.pos h92 (Ev.pos (by simp only [List.length_cons]; omega) (Ev.bind (Ev.now _) (Ev.pos (by simp only [List.length_cons, List.length_append, List.length_nil]; omega) ?_)))
            simpa using next
          · rw [if_neg (by omega)] at next
            refine Ev.neg h92 (Ev.pos (by simp only [List.length_cons]; omega) ?_)
            simpa using next
    by_cases h32 : bt t i < 32
    · exact Ev.pos h32 (body true (by simp [h32]))
    · exact Ev.neg h32 (body _ (by rw [decide_eq_decide]; omega))
theorem join_snoc (xs : List (List UInt8)) (y sep : List UInt8) (h : xs ≠ []) : Lib.join (xs ++ [y]) sep = Lib.join xs sep ++ (sep ++ y) := by
  obtain ⟨x, r, rfl⟩ := List.exists_cons_of_ne_nil h
  rw [List.cons_append, Lib.join_cons, Lib.join_cons]
  unfold Lib.joinTail
  simp
theorem deci_code (n : Int) (h0 : -9223372036854775808 ≤ n) (h1 : n ≤ 9223372036854775807) : switchyardref06_Decimal.f n = some ⟨(Lib.itoa n).toArray⟩ := by
  unfold switchyardref06_Decimal.f
  rw [if_pos h0, if_pos h1]
def mk (l : List UInt8) : ByteArray := ⟨l.toArray⟩
theorem mk_append (a b : List UInt8) : mk a ++ mk b = mk (a ++ b) := cat_bytes a b
theorem mk_size (a : List UInt8) : (mk a).size = a.length := size_mk a
theorem join2_len (l : List Int) (hl : l.length ≤ 16) (hI : Ints l) : (join2 l).length ≤ 400 := by
  have := join_len [44, 32] 20 (l.map Lib.itoa) (fun x hx => by
    obtain ⟨n, hn, rfl⟩ := List.mem_map.1 hx
    exact itoa_len n (hI n hn).1 (hI n hn).2)
  unfold join2
  rw [List.length_map] at this
  simp only [List.length_cons, List.length_nil] at this
  omega
theorem ref_list_loop (l : List Int) (hl : l.length ≤ 16) (hI : Ints l) : ∀ d i : Nat, i + d = l.length → Ev (fun k => switchyardref06_Print.l1 k (mk (91 :: join2 (l.take i))) l (l.length : Int) (i : Int)) (mk (91 :: (join2 l ++ [93]))) := by
  intro d
  have short : ∀ i, (join2 (l.take i)).length ≤ 400 := fun i => join2_len _ (by have := List.length_take_le i l; have := List.length_take_le' i l; omega) (fun x hx => hI x (List.mem_of_mem_take hx))
  induction d with
  | zero =>
    intro i hi
    have hs := short i
    refine Ev.step (fun k => by simp only [switchyardref06_Print.l1]; rfl) (Ev.neg (by omega) (Ev.pos (by rw [mk_size, List.length_cons]; omega) (Ev.val ?_)))
    rw [List.take_of_length_le (by omega)]
    exact mk_append (91 :: join2 l) [93]
  | succ d ih =>
    intro i hi
    have hlt : i < l.length := by omega
    have hs := short i
    have hm := hI _ (List.getElem_mem hlt)
    have hn := itoa_len _ hm.1 hm.2
    have next := ih (i + 1) (by omega)
    refine Ev.step (fun k => by simp only [switchyardref06_Print.l1]; rfl) (Ev.pos (by omega) (Ev.pos (by omega) (Ev.pos (by omega) ?_)))
    rw [rd_at hlt, deci_code _ hm.1 hm.2, wr_succ hlt (by omega)]
    have e2 : (⟨#[44, 32]⟩ : ByteArray) = mk [44, 32] := rfl
    have e3 : (⟨(Lib.itoa l[i]).toArray⟩ : ByteArray) = mk (Lib.itoa l[i]) := rfl
    rw [e2, e3]
    by_cases h0 : i = 0
    · subst h0
      refine Ev.neg (by omega) (Ev.bind (Ev.now _) (Ev.pos (by rw [mk_size, mk_size, List.length_cons]; omega) ?_))
      rw [mk_append]
      have e : join2 (l.take (0 + 1)) = Lib.itoa l[0] := by
        rw [List.take_succ_eq_append_getElem hlt]; unfold join2; simp [Lib.join_one]
      rw [e] at next
      have e4 : (91 :: join2 (l.take 0)) ++ Lib.itoa l[0] = 91 :: Lib.itoa l[0] := by simp [join2, Lib.join_nil]
      rw [e4]; exact next
    · refine Ev.pos (by omega) (Ev.pos (by rw [mk_size, List.length_cons]; omega) (Ev.bind (Ev.now _) (Ev.pos (by rw [mk_append, mk_size, mk_size, List.length_append, List.length_cons]; have e : ([44, 32] : List UInt8).length = 2 := rfl; omega) ?_)))
      rw [mk_append, mk_append]
      have e : join2 (l.take (i + 1)) = join2 (l.take i) ++ ([44, 32] ++ Lib.itoa l[i]) := by
        rw [List.take_succ_eq_append_getElem hlt]; unfold join2
        rw [List.map_append, List.map_cons, List.map_nil, join_snoc]
        intro h
        have := congrArg List.length h
        rw [List.length_map, List.length_take, List.length_nil] at this
        omega
      rw [e] at next
      simpa using next
theorem ref_print_ev (a n : Int) (t : ByteArray) (l : List Int) (hr : rightB a n t l = true) (hn0 : -9223372036854775808 ≤ n) (hn1 : n ≤ 9223372036854775807) (hI : Ints l) : Ev (fun k => switchyardref06_Print.f k a n t l) ⟨(printL a n t l).toArray⟩ := by
  unfold switchyardref06_Print.f printL
  unfold rightB at hr
  have no : ¬ a = 1 → ¬ a = 2 → Ev (fun k => switchyardref06_Print.j0 k false a n t l) ⟨(printL a n t l).toArray⟩ := by
    intro h1 h2
    unfold printL
    rw [if_neg h1, if_neg h2] at hr
    rw [if_neg h1, if_neg h2]
    refine Ev.step (fun k => by simp only [switchyardref06_Print.j0]; rfl) (Ev.neg (by simp) (Ev.neg h2 ?_))
    by_cases h4 : a = 4
    · subst h4
      simp at hr
      have hs : t.size ≤ 24 := by
        have := hr.2
        unfold nameB at this
        simp at this
        omega
      refine Ev.pos rfl (Ev.pos (by omega) (Ev.val ?_))
      rw [if_neg (by decide), if_pos rfl]
      apply ByteArray.ext
      simp
    · refine Ev.neg h4 ?_
      rw [if_neg h4]
      by_cases h3 : a = 3
      · subst h3
        simp at hr
        refine Ev.pos rfl (Ev.pos (by decide) ?_)
        rw [if_pos rfl]
        show Ev _ (strOfNums (quotedL t))
        have := ref_quoted_loop 3 n t l (by omega) t.size 0 (by omega)
        simpa using this
      · refine Ev.neg h3 ?_
        rw [if_neg h3]
        by_cases h5 : a = 5
        · subst h5
          simp at hr
          refine Ev.pos rfl ?_
          rw [if_pos rfl]
          have := ref_list_loop l (by omega) hI l.length 0 (by omega)
          simpa [mk, join2, Lib.join_nil] using this
        · refine Ev.neg h5 (Ev.val ?_)
          rw [if_neg h5]
  by_cases h1 : a = 1
  · refine Ev.pos h1 ?_
    rw [if_pos h1, deci_code n hn0 hn1]
    exact Ev.bind (Ev.now _) (Ev.now _)
  · refine Ev.neg h1 ?_
    by_cases h2 : a = 2
    · rw [if_neg h1, if_pos h2]
      refine Ev.pos h2 (Ev.step (fun k => by simp only [switchyardref06_Print.j0]; rfl) ?_)
      by_cases e : n = 1
      · refine Ev.pos (by simp [e]) (Ev.val ?_)
        rw [if_pos e]
      · refine Ev.neg (by simp [e]) (Ev.pos h2 (Ev.val ?_))
        rw [if_neg e]
    · have := no h1 h2
      unfold printL at this
      exact Ev.neg h2 this
theorem keyL_len (l : List S24) (hl : l.length ≤ 1000) (hF : ∀ v ∈ l, Fine v) : (keyL l).length ≤ 500000 := by
  have hj := join_len [44] 400 (l.map fun v => printL v.f0 v.f1 v.f2 v.f3) (fun x hx => by
    obtain ⟨v, hv, rfl⟩ := List.mem_map.1 hx
    exact print_len v (hF v hv))
  unfold keyL
  rw [List.length_map] at hj
  simp only [List.length_cons, List.length_nil] at hj
  omega
theorem ref_key_loop (l : List S24) (hl : l.length ≤ 1000) (hF : ∀ v ∈ l, Fine v) : ∀ d i : Nat, i + d = l.length → Ev (fun k => switchyardref06_Key.l0 k (mk (keyL (l.take i))) l (l.length : Int) (i : Int)) (mk (keyL l)) := by
  intro d
  have short : ∀ i, (keyL (l.take i)).length ≤ 500000 := fun i => keyL_len _ (by have := List.length_take_le' i l; omega) (fun x hx => hF x (List.mem_of_mem_take hx))
  induction d with
  | zero =>
    intro i hi
    refine Ev.step (fun k => by simp only [switchyardref06_Key.l0]; rfl) (Ev.neg (by omega) (Ev.val ?_))
    rw [List.take_of_length_le (by omega)]
  | succ d ih =>
    intro i hi
    have hlt : i < l.length := by omega
    have hs := short i
    have hf := hF _ (List.getElem_mem hlt)
    have hp := print_len _ hf
    have next := ih (i + 1) (by omega)
    refine Ev.step (fun k => by simp only [switchyardref06_Key.l0]; rfl) (Ev.pos (by omega) (Ev.pos (by omega) (Ev.pos (by omega) ?_)))
    rw [rdT_at hlt, wr_succ hlt (by omega)]
    have e2 : (⟨#[44]⟩ : ByteArray) = mk [44] := rfl
    rw [e2]
    by_cases h0 : i = 0
    · subst h0
      refine Ev.neg (by omega) (Ev.bind (ref_print_ev _ _ _ _ hf.1 hf.2.1.1 hf.2.1.2 hf.2.2) ?_)
      have e3 : (⟨(printL l[0].f0 l[0].f1 l[0].f2 l[0].f3).toArray⟩ : ByteArray) = mk (printL l[0].f0 l[0].f1 l[0].f2 l[0].f3) := rfl
      rw [e3]
      refine Ev.pos (by rw [mk_size, mk_size]; omega) ?_
      rw [mk_append]
      have e : keyL (l.take (0 + 1)) = printL l[0].f0 l[0].f1 l[0].f2 l[0].f3 := by
        rw [List.take_succ_eq_append_getElem hlt]; unfold keyL; simp [Lib.join_one]
      rw [e] at next
      have e4 : keyL (l.take 0) ++ printL l[0].f0 l[0].f1 l[0].f2 l[0].f3 = printL l[0].f0 l[0].f1 l[0].f2 l[0].f3 := by simp [keyL, Lib.join_nil]
      rw [e4]; exact next
    · refine Ev.pos (by omega) (Ev.pos (by rw [mk_size]; omega) (Ev.bind (ref_print_ev _ _ _ _ hf.1 hf.2.1.1 hf.2.1.2 hf.2.2) ?_))
      have e3 : (⟨(printL l[i].f0 l[i].f1 l[i].f2 l[i].f3).toArray⟩ : ByteArray) = mk (printL l[i].f0 l[i].f1 l[i].f2 l[i].f3) := rfl
      rw [e3]
      refine Ev.pos (by rw [mk_append, mk_size, mk_size, List.length_append]; simp only [List.length_cons, List.length_nil]; omega) ?_
      rw [mk_append, mk_append]
      have e : keyL (l.take (i + 1)) = keyL (l.take i) ++ ([44] ++ printL l[i].f0 l[i].f1 l[i].f2 l[i].f3) := by
        rw [List.take_succ_eq_append_getElem hlt]; unfold keyL
        rw [List.map_append, List.map_cons, List.map_nil, join_snoc]
        intro h
        have := congrArg List.length h
        rw [List.length_map, List.length_take, List.length_nil] at this
        omega
      rw [e] at next
      simpa using next
theorem ref_key_ev (l : List S24) (hl : l.length ≤ 1000) (hF : ∀ v ∈ l, Fine v) : Ev (fun k => switchyardref06_Key.f k l) ⟨(keyL l).toArray⟩ := by
  have := ref_key_loop l hl hF l.length 0 (by omega)
  simpa [switchyardref06_Key.f, mk, keyL, Lib.join_nil] using this
theorem twin_loop (l : List S24) (hl : l.length ≤ 1000) (hL : ∀ v ∈ l, v.f3.length ≤ 16) : ∀ d i : Nat, i + d = l.length → Ev (fun k => value_Twin.l0 k (l.take i) l (l.length : Int) (i : Int)) l := by
  intro d
  induction d with
  | zero =>
    intro i hi
    refine Ev.step (fun k => by simp only [value_Twin.l0]; rfl) (Ev.neg (by omega) (Ev.val ?_))
    exact List.take_of_length_le (by omega)
  | succ d ih =>
    intro i hi
    have hlt : i < l.length := by omega
    have hs := hL _ (List.getElem_mem hlt)
    have next := ih (i + 1) (by omega)
    refine Ev.step (fun k => by simp only [value_Twin.l0]; rfl) (Ev.pos (by omega) (Ev.pos (by omega) (Ev.pos (by omega) ?_)))
    rw [rdT_at hlt, wr_succ hlt (by omega)]
    unfold slices_Clone_int64_int64.f
    rw [if_pos (by omega)]
    refine Ev.bind (Ev.now _) (Ev.pos (by have := List.length_take_le' i l; omega) ?_)
    rw [List.take_succ_eq_append_getElem hlt] at next
    exact next
theorem twin_ev (l : List S24) (hl : l.length ≤ 1000) (hL : ∀ v ∈ l, v.f3.length ≤ 16) : Ev (fun k => value_Twin.f k l) l := by
  have := twin_loop l hl hL l.length 0 (by omega)
  simpa [value_Twin.f] using this
theorem ref_twin_loop (l : List S24) (hl : l.length ≤ 1000) (hL : ∀ v ∈ l, v.f3.length ≤ 16) : ∀ d i : Nat, i + d = l.length → Ev (fun k => switchyardref06_Twin.l0 k (l.take i) l (l.length : Int) (i : Int)) l := by
  intro d
  induction d with
  | zero =>
    intro i hi
    refine Ev.step (fun k => by simp only [switchyardref06_Twin.l0]; rfl) (Ev.neg (by omega) (Ev.val ?_))
    exact List.take_of_length_le (by omega)
  | succ d ih =>
    intro i hi
    have hlt : i < l.length := by omega
    have hs := hL _ (List.getElem_mem hlt)
    have next := ih (i + 1) (by omega)
    refine Ev.step (fun k => by simp only [switchyardref06_Twin.l0]; rfl) (Ev.pos (by omega) (Ev.pos (by omega) (Ev.pos (by omega) ?_)))
    rw [rdT_at hlt, wr_succ hlt (by omega)]
    refine Ev.bind (Ev.now _) (Ev.pos (by simp only [List.length_nil]; omega) (Ev.pos (by have := List.length_take_le' i l; omega) ?_))
    rw [List.take_succ_eq_append_getElem hlt] at next
    exact next
theorem ref_twin_ev (l : List S24) (hl : l.length ≤ 1000) (hL : ∀ v ∈ l, v.f3.length ≤ 16) : Ev (fun k => switchyardref06_Twin.f k l) l := by
  have := ref_twin_loop l hl hL l.length 0 (by omega)
  simpa [switchyardref06_Twin.f] using this
end Go.Proofs.YtdmmgeggljlceaaDoor.XV
