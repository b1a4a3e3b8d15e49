/- Words, printed functions and plain lemmas that the claim's theorem reaches (gathered by a program of this session out of its own and the print's texts). No conditions but those that each statement names. -/
import Derived.Test.YtdjcechogbcdnaaDoorKScans2
namespace Go.Proofs.YtdjcechogbcdnaaDoor.XL
open Go.RowKit Go.Proofs.YtdjcechogbcdnaaDoorW.PrintWords Go.Proofs.YtdjcechogbcdnaaDoorW.PrintLast Go.Proofs.YtdjcechogbcdnaaDoorW.PrintMore
set_option linter.unusedVariables false
set_option linter.unusedSimpArgs false
theorem tokL_cons (c : UInt8) (r : List UInt8) : tokL (c :: r) = if letC c = true then wordTk 1 ((c :: r).takeWhile wordC) ((c :: r).takeWhile wordC).length
    else if digC c = true then numTk ((c :: r).takeWhile digC)
    else if c = 34 then textTk (c :: r)
    else if c = 39 then wordTk 4 (r.takeWhile wordC) (1 + (r.takeWhile wordC).length)
    else signTk (c :: r) := rfl
theorem sign_res (l : List UInt8) : signAt (mk l) = tokRes (signTk l) := by
  unfold signAt signTk signRes
  rw [mkd]
  cases signL.find? (fun z => z.isPrefixOf l) <;> rfl
theorem name_mk (l : List UInt8) : value_Name.f (mk l) = some (nameL l) := rfl
theorem c_eq {c : UInt8} {n : Nat} (hn : n < 256) : ((c.toNat : Int) = (n : Int)) ↔ c = UInt8.ofNat n := by
  constructor
  · intro h; apply UInt8.toNat_inj.1; rw [UInt8.toNat_ofNat']; omega
  · rintro rfl; rw [UInt8.toNat_ofNat']; omega
theorem let_word {c : UInt8} (h : letC c = true) : wordC c = true := by simp [wordC, h]
theorem token_ev (c : UInt8) (r : List UInt8) (hl : (c :: r).length ≤ 8000) : Ev (fun k => lex_token.f k (mk (c :: r))) (tokRes (tokL (c :: r))) := by
  have hb : bt (mk (c :: r)) 0 = (c.toNat : Int) := bt_mk (l := c :: r) (i := 0) (by simp)
  have hsz : (mk (c :: r)).size = (c :: r).length := mk_size _
  have hlr : r.length < 8000 := by rw [List.length_cons] at hl; omega
  unfold lex_token.f
  rw [hb, letter_code, digit_code]
  refine Ev.pos (by rw [hsz]; simp) (Ev.bind (Ev.now _) ?_)
  rw [tokL_cons]
  by_cases h1 : letC c = true
  · rw [if_pos h1]
    refine Ev.pos h1 (Ev.bind (run_ev (c :: r) (by omega)) ?_)
    have hw := tw_le (p := wordC) (c :: r)
    rw [Int.toNat_natCast, mk_take, tw_take, name_mk]
    refine Ev.pos (by omega) (Ev.pos (by rw [hsz]; omega) (Ev.bind (Ev.now _) ?_))
    unfold wordTk
    by_cases hn : nameL ((c :: r).takeWhile wordC) = true
    · rw [if_pos hn, if_pos hn]; exact Ev.now _
    · rw [if_neg hn, if_neg hn]; exact Ev.now _
  · rw [if_neg h1]
    refine Ev.neg h1 (Ev.bind (Ev.now _) ?_)
    by_cases h2 : digC c = true
    · rw [if_pos h2]
      refine Ev.pos h2 ?_
      have := digits_ev (c :: r) hl (by rw [List.takeWhile_cons, if_pos h2]; simp)
      rw [hb] at this
      exact this
    · rw [if_neg h2]
      refine Ev.neg h2 ?_
      by_cases h3 : c = 34
      · subst h3
        rw [if_pos rfl]
        refine Ev.pos (by rfl) ?_
        rcases text_ev r hl with ⟨t, n, e, h⟩ | ⟨e, n, t, h⟩
        · rw [e]
          exact Ev.bind h (Ev.pos rfl (Ev.now _))
        · rw [e]
          exact Ev.bind h (Ev.neg (by simp) (Ev.now _))
      · rw [if_neg h3]
        refine Ev.neg (fun h => h3 ((c_eq (by decide)).1 h)) ?_
        by_cases h4 : c = 39
        · subst h4
          rw [if_pos rfl]
          have hd : (mk (39 :: r)).extract 1 (mk (39 :: r)).size = mk r := by
            rw [mk_drop (39 :: r) 1 _ (by rw [hsz]; exact Nat.le_refl _)]; rfl
          have hw := tw_le (p := wordC) r
          have hk : wrap64 (1 + ((r.takeWhile wordC).length : Int)) = ((1 + (r.takeWhile wordC).length : Nat) : Int) := by rw [w_id] <;> omega
          refine Ev.pos (by rfl) (Ev.pos (by rw [hsz]; simp; omega) ?_)
          rw [hd]
          refine Ev.bind (run_ev r (by omega)) ?_
          rw [hk]
          have he : (mk (39 :: r)).extract 1 (((1 + (r.takeWhile wordC).length : Nat) : Int)).toNat = mk (r.takeWhile wordC) := by
            rw [Int.toNat_natCast, mk_ext, Nat.add_comm 1, List.take_succ_cons, List.drop_succ_cons, List.drop_zero, tw_take]
          rw [he, name_mk]
          refine Ev.pos (by omega) (Ev.pos (by rw [hsz, List.length_cons]; omega) (Ev.bind (Ev.now _) ?_))
          unfold wordTk
          by_cases hn : nameL (r.takeWhile wordC) = true
          · rw [if_pos hn, if_pos hn]; exact Ev.now _
          · rw [if_neg hn, if_neg hn]; exact Ev.now _
        · rw [if_neg h4, sign_res]
          exact Ev.neg (fun h => h4 ((c_eq (by decide)).1 h)) (Ev.now _)
theorem signs_len : ∀ z ∈ signL, 1 ≤ z.length := by decide
theorem prt_len (t : List UInt8) : 2 ≤ (prt t).length := by simp [prt]
theorem tok_len (l : List UInt8) (x : Tk) (h : tokL l = some x) : 1 ≤ x.2.2.2 ∧ x.2.2.2 ≤ l.length := by
  cases l with
  | nil => cases h
  | cons c r =>
    rw [tokL_cons] at h
    split at h
    · rename_i h1
      unfold wordTk at h
      split at h
      · obtain rfl := Option.some.inj h
        exact ⟨by simp [List.takeWhile_cons, let_word h1], tw_le _⟩
      · cases h
    · split at h
      · rename_i h2
        unfold numTk at h
        split at h
        · obtain rfl := Option.some.inj h
          exact ⟨by simp [List.takeWhile_cons, h2], tw_le _⟩
        · cases h
      · split at h
        · obtain ⟨t, _, h2, rfl⟩ := textTk_is h
          have := prt_len t
          exact ⟨by simp only; omega, h2.length_le⟩
        · split at h
          · unfold wordTk at h
            split at h
            · obtain rfl := Option.some.inj h
              have := tw_le (p := wordC) r
              exact ⟨by simp only; omega, by simp only [List.length_cons]; omega⟩
            · cases h
          · unfold signTk at h
            obtain ⟨z, hz, rfl⟩ := Option.map_eq_some_iff.1 h
            have hm := List.mem_of_find?_eq_some hz
            have hp := List.find?_some hz
            simp only [List.isPrefixOf_iff_prefix] at hp
            exact ⟨signs_len z hm, hp.length_le⟩
theorem bm_le : ∀ (b : Bool) (l : List UInt8), bm b l ≤ l.length
  | _, [] => by simp [bm]
  | false, c :: r => by
    have h1 := bm_le false r
    have h2 := bm_le true r
    simp only [bm, List.length_cons]
    split
    · omega
    · split <;> omega
  | true, c :: r => by
    have h1 := bm_le false r
    have h2 := bm_le true r
    simp only [bm, List.length_cons]
    split <;> omega
/-- The tokens from a place on, with so much fuel; or where the first thing stands that is none. -/
noncomputable def scanF : Nat → Nat → List UInt8 → (List S32) ⊕ Nat
  | 0, at_, _ => .inr at_
  | _ + 1, at_, [] => .inl [⟨0, (⟨#[]⟩ : ByteArray), 0, (at_ : Int)⟩]
  | f + 1, at_, c :: r => match tokL (c :: r) with
    | none => .inr at_
    | some x => match scanF f (at_ + x.2.2.2 + bm false ((c :: r).drop x.2.2.2)) (((c :: r).drop x.2.2.2).drop (bm false ((c :: r).drop x.2.2.2))) with
      | .inl ts => .inl (⟨x.1, mk x.2.1, x.2.2.1, (at_ : Int)⟩ :: ts)
      | .inr e => .inr e
def scanRes (out : List S32) : (List S32) ⊕ Nat → List S32 × Int × Int
  | .inl ts => (out ++ ts, 0, 0)
  | .inr e => ([], (e : Int), 24)
noncomputable def scanL (l : List UInt8) : (List S32) ⊕ Nat := scanF (l.length + 1) (bm false l) (l.drop (bm false l))
theorem scan_step (f at_ : Nat) (c : UInt8) (r : List UInt8) (out : List S32) (x : Tk) (hx : tokL (c :: r) = some x) : scanRes out (scanF (f + 1) at_ (c :: r)) = scanRes (out ++ [⟨x.1, mk x.2.1, x.2.2.1, (at_ : Int)⟩]) (scanF f (at_ + x.2.2.2 + bm false ((c :: r).drop x.2.2.2)) (((c :: r).drop x.2.2.2).drop (bm false ((c :: r).drop x.2.2.2)))) := by
  simp only [scanF, hx]
  cases scanF f (at_ + x.2.2.2 + bm false ((c :: r).drop x.2.2.2)) (((c :: r).drop x.2.2.2).drop (bm false ((c :: r).drop x.2.2.2))) with
  | inl ts => simp [scanRes]
  | inr e => rfl
theorem scan_loop (l : List UInt8) (hl : l.length ≤ 8000) : ∀ (f i : Nat) (out : List S32), l.length - i < f → i ≤ l.length → out.length ≤ i → Ev (fun k => lex_Scan.l0 k (mk l) out (i : Int)) (scanRes out (scanF f i (l.drop i))) := by
  intro f
  induction f with
  | zero => intro i out h; omega
  | succ f ih =>
    intro i out hf hi ho
    refine Ev.step (fun k => by simp only [lex_Scan.l0]; rfl) ?_
    by_cases hlt : i < l.length
    · have hdr := List.drop_eq_getElem_cons hlt
      generalize l[i] = c at hdr
      generalize hY : l.drop (i + 1) = Y at hdr
      have hYl : (c :: Y).length = l.length - i := by rw [← hdr, List.length_drop]
      have he : (mk l).extract ((i : Int)).toNat (mk l).size = mk (c :: Y) := by
        rw [Int.toNat_natCast, mk_drop l i _ (by rw [mk_size]; exact Nat.le_refl _), hdr]
      rw [he]
      refine Ev.pos (by rw [mk_size]; omega) (Ev.pos (by omega) (Ev.pos (by rw [mk_size]; omega) (Ev.bind (token_ev c Y (by omega)) ?_)))
      rw [hdr]
      cases hx : tokL (c :: Y) with
      | none =>
        refine Ev.pos (by rfl) (Ev.val ?_)
        simp only [scanF, hx]; rfl
      | some x =>
        obtain ⟨h1, h2⟩ := tok_len _ _ hx
        rw [hYl] at h2
        rw [scan_step f i c Y out x hx]
        obtain ⟨xk, xt, xv, n⟩ := x
        simp only at h1 h2 ⊢
        have e1 : wrap64 ((i : Int) + (n : Int)) = ((i + n : Nat) : Int) := by rw [w_id] <;> omega
        have hd2 : (c :: Y).drop n = l.drop (i + n) := by rw [← hdr, List.drop_drop]
        have hbl := bm_le false (l.drop (i + n))
        rw [List.length_drop] at hbl
        have e2 : (mk l).extract (((i + n : Nat) : Int)).toNat (mk l).size = mk (l.drop (i + n)) := by
          rw [Int.toNat_natCast, mk_drop l (i + n) _ (by rw [mk_size]; exact Nat.le_refl _)]
        rw [hd2, List.drop_drop]
        simp only [tokRes, e1, e2]
        clear e1 e2 he
        refine Ev.neg (by omega) (Ev.pos (by omega) (Ev.pos (by omega) (Ev.pos (by rw [mk_size]; omega) (Ev.bind (blanks_ev (l.drop (i + n)) (by rw [List.length_drop]; omega)) ?_))))
        have e3 : wrap64 (((i + n : Nat) : Int) + ((bm false (l.drop (i + n)) : Nat) : Int)) = ((i + n + bm false (l.drop (i + n)) : Nat) : Int) := by rw [w_id] <;> omega
        rw [e3]
        exact ih _ _ (by omega) (by omega) (by simp only [List.length_append, List.length_cons, List.length_nil]; omega)
    · rw [List.drop_eq_nil_of_le (by omega)]
      refine Ev.neg (by rw [mk_size]; omega) (Ev.pos (by omega) (Ev.val ?_))
      rfl
theorem scan_ev (l : List UInt8) (hl : l.length ≤ 8000) : Ev (fun k => lex_Scan.f k (mk l)) (scanRes [] (scanL l)) := by
  unfold lex_Scan.f
  have hb := bm_le false l
  refine Ev.neg (by rw [mk_size]; omega) (Ev.bind (blanks_ev l (by omega)) ?_)
  exact scan_loop l hl (l.length + 1) (bm false l) [] (by omega) hb (by simp)
theorem scan_long (l : List UInt8) (hl : ¬ l.length ≤ 8000) : Ev (fun k => lex_Scan.f k (mk l)) (([] : List S32), 0, 5) := by
  unfold lex_Scan.f
  exact Ev.pos (by rw [mk_size]; omega) (Ev.now _)
end Go.Proofs.YtdjcechogbcdnaaDoor.XL
namespace Go.Proofs.YtdjcechogbcdnaaDoor.XL
open Go.RowKit Go.Proofs.YtdjcechogbcdnaaDoorW.PrintWords Go.Proofs.YtdjcechogbcdnaaDoorW.PrintLast Go.Proofs.YtdjcechogbcdnaaDoorW.PrintMore
attribute [local go_sem] max2_int min2_int max_two min_two max_three min_three max_four min_four   -- for this text's walks alone
set_option linter.unusedVariables false
set_option linter.unusedSimpArgs false
theorem eqA32 (d : Nat) (w : World) (x0 y0 : Int) (x1 y1 : ByteArray) (x2 y2 : Int) (x3 y3 : Int) :
    (Op.equalIn (d + 2) 32 (.agg #[.int .i64 x0, .string x1, .int .i64 x2, .int .i64 x3]) (.agg #[.int .i64 y0, .string y1, .int .i64 y2, .int .i64 y3])).run Tryd.prog w = .ok (x0 == y0 && (x1.toList == y1.toList && (x2 == y2 && (x3 == y3)))) w := by
  refine eqA_of Tryd.underlying32 (by kernel_rfl) ?_
  refine eqf_cons (by rfl) (by go_simp; rfl) (by go_simp; rfl) (by go_simp) ?_
  refine eqf_cons (by rfl) (by go_simp; rfl) (by go_simp; rfl) (by go_simp) ?_
  refine eqf_cons (by rfl) (by go_simp; rfl) (by go_simp; rfl) (by go_simp) ?_
  exact eqf_last (by rfl) (by go_simp; rfl) (by go_simp; rfl) (by go_simp)
end Go.Proofs.YtdjcechogbcdnaaDoor.XL
namespace Go.Proofs.YtdjcechogbcdnaaDoor.XL
open Go.RowKit Go.Proofs.YtdjcechogbcdnaaDoorW.PrintWords Go.Proofs.YtdjcechogbcdnaaDoorW.PrintLast Go.Proofs.YtdjcechogbcdnaaDoorW.PrintMore
attribute [local go_sem] max2_int min2_int max_two min_two max_three min_three max_four min_four   -- for this text's walks alone
set_option linter.unusedVariables false
set_option linter.unusedSimpArgs false
mutual
def switchyardref07_Blanks.l0 : Nat → ByteArray → Int → Int → Option (Int)
  | 0, _, _, _ => none
  | k + 1, x0, x1, x5 => if x5 < (x0.size : Int) then (if 0 ≤ x5 then (if (bt x0 x5) = 9 then (switchyardref07_Blanks.j1 k x0 x1 x5 true) else (if (bt x0 x5) = 10 then (switchyardref07_Blanks.j1 k x0 x1 x5 true) else (if (bt x0 x5) = 13 then (switchyardref07_Blanks.j1 k x0 x1 x5 true) else (switchyardref07_Blanks.j1 k x0 x1 x5 ((bt x0 x5) == 32))))) else (none)) else (some (wrap64 (x5 - x1)))
def switchyardref07_Blanks.j1 : Nat → ByteArray → Int → Int → Bool → Option (Int)
  | 0, _, _, _, _ => none
  | k + 1, x0, x1, x5, x32 => if x32 = true then (switchyardref07_Blanks.l0 k x0 x1 (wrap64 (x5 + 1))) else (if (wrap64 (x5 + 1)) < (x0.size : Int) then (if 0 ≤ x5 then (if x5 ≤ (wrap64 (x5 + 2)) then (if (wrap64 (x5 + 2)) ≤ (x0.size : Int) then (switchyardref07_Blanks.j2 k x0 x1 x5 ((x0.extract (x5 : Int).toNat ((wrap64 (x5 + 2)) : Int).toNat).toList == ([47, 47] : List UInt8))) else (none)) else (none)) else (none)) else (switchyardref07_Blanks.j2 k x0 x1 x5 false))
def switchyardref07_Blanks.j2 : Nat → ByteArray → Int → Int → Bool → Option (Int)
  | 0, _, _, _, _ => none
  | k + 1, x0, x1, x5, x47 => if x47 = true then (switchyardref07_Blanks.l1 k x0 x1 x5) else (some (wrap64 (x5 - x1)))
def switchyardref07_Blanks.l1 : Nat → ByteArray → Int → Int → Option (Int)
  | 0, _, _, _ => none
  | k + 1, x0, x1, x5 => if x5 < (x0.size : Int) then (if 0 ≤ x5 then (if (bt x0 x5) = 10 then (switchyardref07_Blanks.l0 k x0 x1 x5) else (switchyardref07_Blanks.l1 k x0 x1 (wrap64 (x5 + 1)))) else (none)) else (switchyardref07_Blanks.l0 k x0 x1 x5)
end
def switchyardref07_Blanks.f (k : Nat) (a0 : ByteArray) (a1 : Int) : Option (Int) := switchyardref07_Blanks.l0 k a0 a1 a1
set_option maxHeartbeats 4000000 in
set_option maxRecDepth 100000 in
theorem switchyardref07_Blanks.calls (k : Nat) (a0 : ByteArray) (a1 : Int) (r : Int) (w : World) (h : switchyardref07_Blanks.f k a0 a1 = some r) :
    Calls Tryd.prog 14 #[.string a0, .int .i64 a1] w fun e w' => e = .returned (.int .i64 r) ∧ Drawn0 w w' := by
  have H : (switchyardref07_Blanks.l0 k a0 a1 a1) = some r := h
  clear h
  have H' := Aside0.mk H
  clear H
  go_enter Tryd.func14, Tryd.ntmps14
  go_wp2
  go_loopg [5] k (fun kq v5 w' => ∃ (x5_1 : Int), v5 = .int .i64 x5_1 ∧ Aside0 (switchyardref07_Blanks.l0 kq a0 a1 x5_1 = some r) ∧ Aside0 (kq ≤ k) ∧ Drawn0 w w')
  case atStart => exact ⟨(a1), (by first | rfl | (simp; done) | (simp [*]; done)), H', ⟨Nat.le_refl _⟩, by repeat (first | exact Drawn0.refl _ | apply Drawn0.step)⟩
  case round =>
    clear H'
    try clear c1
    try clear p2
    obtain ⟨x5_1, rfl, HA, HK1, ⟨m1, rfl⟩⟩ := hrel
    cases gk with
    | zero => exact absurd HA.out (by simp [switchyardref07_Blanks.l0])
    | succ k1 =>
      have H := HA.out
      clear HA
      simp only [switchyardref07_Blanks.l0] at H
      by_cases c3 : x5_1 < (a0.size : Int)
      · rw [if_pos c3] at H
        have c3b0 : decide (x5_1 < (a0.size : Int)) = true := decide_eq_true c3
        clear c3
        have HC4 := Aside0.mk H
        clear H
        go_upto_region 3 with (fail)
        go_cut [32] (fun v32 wc => ∃ (kq : Nat) (x32_3 : Bool), v32 = .bool x32_3 ∧ Aside0 (switchyardref07_Blanks.j1 kq a0 a1 x5_1 x32_3 = some r) ∧ Aside0 (kq ≤ k1) ∧ Drawn0 w wc)
        case first =>
          have H := HC4.out
          clear HC4
          by_cases c5 : 0 ≤ x5_1
          · rw [if_pos c5] at H
            have c5b0 : decide (0 ≤ x5_1) = true := decide_eq_true c5
            clear c5
            (first | rw [c5b0] | (simp only [i64_w, i32_w]; rw [c5b0]) | skip)
            by_cases c7 : (bt a0 x5_1) = 9
            · rw [if_pos c7] at H
              have c7b0 : ((bt a0 x5_1) == 9) = true := beq_iff_eq.mpr c7
              have c7b1 : ((bt a0 x5_1) != 9) = false := bne_eq_false_iff_eq.mpr c7
              clear c7
              have H' := Aside0.mk H
              clear H
              have p6 : 0 ≤ (x5_1 : Int) := of_decide_eq_true (by first | (with_reducible assumption) | assumption)
              have q6 : x5_1 < (a0.size : Int) := of_decide_eq_true (by first | (with_reducible assumption) | assumption)
              have hx6 := bt_at a0 x5_1
              replace p6 := eq_true p6
              replace q6 := eq_true q6
              go_wp2
              go_meet
              case rel => exact ⟨_, (true), (by first | rfl | (simp; done) | (simp [*]; done)), H', ⟨by have := HK1.out; first | omega | exact Nat.le_refl _⟩, by repeat (first | exact Drawn0.refl _ | apply Drawn0.step)⟩
            · rw [if_neg c7] at H
              have c7b0 : ((bt a0 x5_1) == 9) = false := beq_eq_false_iff_ne.mpr c7
              have c7b1 : ((bt a0 x5_1) != 9) = true := bne_iff_ne.mpr c7
              by_cases c9 : (bt a0 x5_1) = 10
              · rw [if_pos c9] at H
                have c9b0 : ((bt a0 x5_1) == 10) = true := beq_iff_eq.mpr c9
                have c9b1 : ((bt a0 x5_1) != 10) = false := bne_eq_false_iff_eq.mpr c9
                clear c9
                have H' := Aside0.mk H
                clear H
                have p6 : 0 ≤ (x5_1 : Int) := of_decide_eq_true (by first | (with_reducible assumption) | assumption)
                have q6 : x5_1 < (a0.size : Int) := of_decide_eq_true (by first | (with_reducible assumption) | assumption)
                have hx6 := bt_at a0 x5_1
                replace p6 := eq_true p6
                replace q6 := eq_true q6
                have p8 : 0 ≤ (x5_1 : Int) := of_decide_eq_true (by first | (with_reducible assumption) | assumption)
                have q8 : x5_1 < (a0.size : Int) := of_decide_eq_true (by first | (with_reducible assumption) | assumption)
                have hx8 := bt_at a0 x5_1
                replace p8 := eq_true p8
                replace q8 := eq_true q8
                go_wp2
                go_meet
                case rel => exact ⟨_, (true), (by first | rfl | (simp; done) | (simp [*]; done)), H', ⟨by have := HK1.out; first | omega | exact Nat.le_refl _⟩, by repeat (first | exact Drawn0.refl _ | apply Drawn0.step)⟩
              · rw [if_neg c9] at H
                have c9b0 : ((bt a0 x5_1) == 10) = false := beq_eq_false_iff_ne.mpr c9
                have c9b1 : ((bt a0 x5_1) != 10) = true := bne_iff_ne.mpr c9
                by_cases c11 : (bt a0 x5_1) = 13
                · rw [if_pos c11] at H
                  have c11b0 : ((bt a0 x5_1) == 13) = true := beq_iff_eq.mpr c11
                  have c11b1 : ((bt a0 x5_1) != 13) = false := bne_eq_false_iff_eq.mpr c11
                  clear c11
                  have H' := Aside0.mk H
                  clear H
                  have p6 : 0 ≤ (x5_1 : Int) := of_decide_eq_true (by first | (with_reducible assumption) | assumption)
                  have q6 : x5_1 < (a0.size : Int) := of_decide_eq_true (by first | (with_reducible assumption) | assumption)
                  have hx6 := bt_at a0 x5_1
                  replace p6 := eq_true p6
                  replace q6 := eq_true q6
                  have p8 : 0 ≤ (x5_1 : Int) := of_decide_eq_true (by first | (with_reducible assumption) | assumption)
                  have q8 : x5_1 < (a0.size : Int) := of_decide_eq_true (by first | (with_reducible assumption) | assumption)
                  have hx8 := bt_at a0 x5_1
                  replace p8 := eq_true p8
                  replace q8 := eq_true q8
                  have p10 : 0 ≤ (x5_1 : Int) := of_decide_eq_true (by first | (with_reducible assumption) | assumption)
                  have q10 : x5_1 < (a0.size : Int) := of_decide_eq_true (by first | (with_reducible assumption) | assumption)
                  have hx10 := bt_at a0 x5_1
                  replace p10 := eq_true p10
                  replace q10 := eq_true q10
                  go_wp2
                  go_meet
                  case rel => exact ⟨_, (true), (by first | rfl | (simp; done) | (simp [*]; done)), H', ⟨by have := HK1.out; first | omega | exact Nat.le_refl _⟩, by repeat (first | exact Drawn0.refl _ | apply Drawn0.step)⟩
                · rw [if_neg c11] at H
                  have c11b0 : ((bt a0 x5_1) == 13) = false := beq_eq_false_iff_ne.mpr c11
                  have c11b1 : ((bt a0 x5_1) != 13) = true := bne_iff_ne.mpr c11
                  have H' := Aside0.mk H
                  clear H
                  have p6 : 0 ≤ (x5_1 : Int) := of_decide_eq_true (by first | (with_reducible assumption) | assumption)
                  have q6 : x5_1 < (a0.size : Int) := of_decide_eq_true (by first | (with_reducible assumption) | assumption)
                  have hx6 := bt_at a0 x5_1
                  replace p6 := eq_true p6
                  replace q6 := eq_true q6
                  have p8 : 0 ≤ (x5_1 : Int) := of_decide_eq_true (by first | (with_reducible assumption) | assumption)
                  have q8 : x5_1 < (a0.size : Int) := of_decide_eq_true (by first | (with_reducible assumption) | assumption)
                  have hx8 := bt_at a0 x5_1
                  replace p8 := eq_true p8
                  replace q8 := eq_true q8
                  have p10 : 0 ≤ (x5_1 : Int) := of_decide_eq_true (by first | (with_reducible assumption) | assumption)
                  have q10 : x5_1 < (a0.size : Int) := of_decide_eq_true (by first | (with_reducible assumption) | assumption)
                  have hx10 := bt_at a0 x5_1
                  replace p10 := eq_true p10
                  replace q10 := eq_true q10
                  have p12 : 0 ≤ (x5_1 : Int) := of_decide_eq_true (by first | (with_reducible assumption) | assumption)
                  have q12 : x5_1 < (a0.size : Int) := of_decide_eq_true (by first | (with_reducible assumption) | assumption)
                  have hx12 := bt_at a0 x5_1
                  replace p12 := eq_true p12
                  replace q12 := eq_true q12
                  go_wp2
                  go_meet
                  case rel => exact ⟨_, (((bt a0 x5_1) == 32)), (by first | rfl | (simp; done) | (simp [*]; done)), H', ⟨by have := HK1.out; first | omega | exact Nat.le_refl _⟩, by repeat (first | exact Drawn0.refl _ | apply Drawn0.step)⟩
          · rw [if_neg c5] at H
            exact absurd H (by simp)
        case rest =>
          clear HC4
          try clear c1
          try clear p1
          try clear q1
          try clear hx1
          try clear p2
          try clear c3
          try clear c3b0
          try clear c5
          try clear c5b0
          try clear p6
          try clear q6
          try clear hx6
          try clear c7
          try clear c7b0
          try clear c7b1
          try clear p8
          try clear q8
          try clear hx8
          try clear c9
          try clear c9b0
          try clear c9b1
          try clear p10
          try clear q10
          try clear hx10
          try clear c11
          try clear c11b0
          try clear c11b1
          try clear p12
          try clear q12
          try clear hx12
          try clear p10
          try clear p12
          try clear p2
          try clear p6
          try clear p8
          try clear q10
          try clear q12
          try clear q6
          try clear q8
          obtain ⟨kq, x32_3, rfl, HA, HJ3, ⟨mc3, rfl⟩⟩ := hcut
          cases kq with
          | zero => exact absurd HA.out (by simp [switchyardref07_Blanks.j1])
          | succ kj3 =>
            have H := HA.out
            clear HA
            simp only [switchyardref07_Blanks.j1] at H
            by_cases c13 : x32_3 = true
            · subst c13
              have H1 : (switchyardref07_Blanks.l0 kj3 a0 a1 (wrap64 (x5_1 + 1))) = some r := by rw [if_pos rfl] at H; exact H
              clear H
              have H := H1
              clear H1
              have H' := Aside0.mk H
              clear H
              go_wp2
              go_roundg kj3
              case measure => have := HK1.out; have := HJ3.out; omega
              case rel => exact ⟨(wrap64 (x5_1 + 1)), (by first | rfl | (simp; done) | (simp [*]; done)), H', ⟨by have := HK1.out; have := HJ3.out; omega⟩, by repeat (first | exact Drawn0.refl _ | apply Drawn0.step)⟩
            · replace c13 := Bool.eq_false_iff.mpr c13
              subst c13
              have H1 : (if (wrap64 (x5_1 + 1)) < (a0.size : Int) then (if 0 ≤ x5_1 then (if x5_1 ≤ (wrap64 (x5_1 + 2)) then (if (wrap64 (x5_1 + 2)) ≤ (a0.size : Int) then (switchyardref07_Blanks.j2 kj3 a0 a1 x5_1 ((a0.extract (x5_1 : Int).toNat ((wrap64 (x5_1 + 2)) : Int).toNat).toList == ([47, 47] : List UInt8))) else (none)) else (none)) else (none)) else (switchyardref07_Blanks.j2 kj3 a0 a1 x5_1 false)) = some r := by rw [if_neg (show ¬ (false = true) by decide)] at H; exact H
              clear H
              have H := H1
              clear H1
              have HC14 := Aside0.mk H
              clear H
              go_upto_region 5 with (fail)
              go_cut [47] (fun v47 wc => ∃ (kq : Nat) (x47_13 : Bool), v47 = .bool x47_13 ∧ Aside0 (switchyardref07_Blanks.j2 kq a0 a1 x5_1 x47_13 = some r) ∧ Aside0 (kq ≤ kj3) ∧ Drawn0 w wc)
              case first =>
                have H := HC14.out
                clear HC14
                by_cases c15 : (wrap64 (x5_1 + 1)) < (a0.size : Int)
                · rw [if_pos c15] at H
                  have c15b0 : decide ((wrap64 (x5_1 + 1)) < (a0.size : Int)) = true := decide_eq_true c15
                  clear c15
                  (first | rw [c15b0] | (simp only [i64_w, i32_w]; rw [c15b0]) | skip)
                  by_cases c16 : 0 ≤ x5_1
                  · rw [if_pos c16] at H
                    have c16b0 := eq_true c16
                    have c16b1 : decide (0 ≤ x5_1) = true := decide_eq_true c16
                    clear c16
                    by_cases c17 : x5_1 ≤ (wrap64 (x5_1 + 2))
                    · rw [if_pos c17] at H
                      have c17b0 := eq_true c17
                      have c17b1 : decide (x5_1 ≤ (wrap64 (x5_1 + 2))) = true := decide_eq_true c17
                      by_cases c18 : (wrap64 (x5_1 + 2)) ≤ (a0.size : Int)
                      · rw [if_pos c18] at H
                        have c18b0 := eq_true c18
                        have c18b1 : decide ((wrap64 (x5_1 + 2)) ≤ (a0.size : Int)) = true := decide_eq_true c18
                        have H' := Aside0.mk H
                        clear H
                        go_wp2
                        go_meet
                        case rel => exact ⟨_, (((a0.extract (x5_1 : Int).toNat ((wrap64 (x5_1 + 2)) : Int).toNat).toList == ([47, 47] : List UInt8))), (by first | rfl | (simp; done) | (simp [*]; done)), H', ⟨by have := HK1.out; have := HJ3.out; first | omega | exact Nat.le_refl _⟩, by repeat (first | exact Drawn0.refl _ | apply Drawn0.step)⟩
                      · rw [if_neg c18] at H
                        exact absurd H (by simp)
                    · rw [if_neg c17] at H
                      exact absurd H (by simp)
                  · rw [if_neg c16] at H
                    exact absurd H (by simp)
                · rw [if_neg c15] at H
                  have c15b0 : decide ((wrap64 (x5_1 + 1)) < (a0.size : Int)) = false := decide_eq_false c15
                  clear c15
                  (first | rw [c15b0] | (simp only [i64_w, i32_w]; rw [c15b0]) | skip)
                  have H' := Aside0.mk H
                  clear H
                  go_wp2
                  go_meet
                  case rel => exact ⟨_, (false), (by first | rfl | (simp; done) | (simp [*]; done)), H', ⟨by have := HK1.out; have := HJ3.out; first | omega | exact Nat.le_refl _⟩, by repeat (first | exact Drawn0.refl _ | apply Drawn0.step)⟩
              case rest =>
                clear HC14
                try clear c1
                try clear p1
                try clear q1
                try clear hx1
                try clear p2
                try clear c3
                try clear c3b0
                try clear c5
                try clear c5b0
                try clear p6
                try clear q6
                try clear hx6
                try clear c7
                try clear c7b0
                try clear c7b1
                try clear p8
                try clear q8
                try clear hx8
                try clear c9
                try clear c9b0
                try clear c9b1
                try clear p10
                try clear q10
                try clear hx10
                try clear c11
                try clear c11b0
                try clear c11b1
                try clear p12
                try clear q12
                try clear hx12
                try clear c13
                try clear c14
                try clear c15
                try clear c15b0
                try clear c16
                try clear c16b0
                try clear c16b1
                try clear c17
                try clear c17b0
                try clear c17b1
                try clear c18
                try clear c18b0
                try clear c18b1
                try clear p1
                try clear p10
                try clear p12
                try clear p2
                try clear p6
                try clear p8
                try clear q1
                try clear q10
                try clear q12
                try clear q6
                try clear q8
                obtain ⟨kq, x47_13, rfl, HA, HJ13, ⟨mc13, rfl⟩⟩ := hcut
                cases kq with
                | zero => exact absurd HA.out (by simp [switchyardref07_Blanks.j2])
                | succ kj13 =>
                  have H := HA.out
                  clear HA
                  simp only [switchyardref07_Blanks.j2] at H
                  by_cases c19 : x47_13 = true
                  · subst c19
                    have H1 : (switchyardref07_Blanks.l1 kj13 a0 a1 x5_1) = some r := by rw [if_pos rfl] at H; exact H
                    clear H
                    have H := H1
                    clear H1
                    have H' := Aside0.mk H
                    clear H
                    go_wp2
                    go_loopg [5] kj13 (fun kq v5 w' => ∃ (x5_4 : Int), v5 = .int .i64 x5_4 ∧ Aside0 (switchyardref07_Blanks.l1 kq a0 a1 x5_4 = some r) ∧ Aside0 (kq ≤ kj13) ∧ Drawn0 w w')
                    case atStart => exact ⟨(x5_1), (by first | rfl | (simp; done) | (simp [*]; done)), H', ⟨Nat.le_refl _⟩, by repeat (first | exact Drawn0.refl _ | apply Drawn0.step)⟩
                    case round =>
                      clear H'
                      try clear c1
                      try clear p1
                      try clear q1
                      try clear hx1
                      try clear p2
                      try clear c3
                      try clear c3b0
                      try clear c5
                      try clear c5b0
                      try clear p6
                      try clear q6
                      try clear hx6
                      try clear c7
                      try clear c7b0
                      try clear c7b1
                      try clear p8
                      try clear q8
                      try clear hx8
                      try clear c9
                      try clear c9b0
                      try clear c9b1
                      try clear p10
                      try clear q10
                      try clear hx10
                      try clear c11
                      try clear c11b0
                      try clear c11b1
                      try clear p12
                      try clear q12
                      try clear hx12
                      try clear c13
                      try clear c14
                      try clear c15
                      try clear c15b0
                      try clear c16
                      try clear c16b0
                      try clear c16b1
                      try clear c17
                      try clear c17b0
                      try clear c17b1
                      try clear c18
                      try clear c18b0
                      try clear c18b1
                      try clear c19
                      try clear p1
                      try clear p10
                      try clear p12
                      try clear p2
                      try clear p6
                      try clear p8
                      try clear q1
                      try clear q10
                      try clear q12
                      try clear q6
                      try clear q8
                      obtain ⟨x5_4, rfl, HA, HK4, ⟨m4, rfl⟩⟩ := hrel
                      cases gk with
                      | zero => exact absurd HA.out (by simp [switchyardref07_Blanks.l1])
                      | succ k4 =>
                        have H := HA.out
                        clear HA
                        simp only [switchyardref07_Blanks.l1] at H
                        by_cases c20 : x5_4 < (a0.size : Int)
                        · rw [if_pos c20] at H
                          have c20b0 : decide (x5_4 < (a0.size : Int)) = true := decide_eq_true c20
                          clear c20
                          by_cases c21 : 0 ≤ x5_4
                          · rw [if_pos c21] at H
                            have c21b0 : decide (0 ≤ x5_4) = true := decide_eq_true c21
                            clear c21
                            by_cases c23 : (bt a0 x5_4) = 10
                            · rw [if_pos c23] at H
                              have c23b0 : ((bt a0 x5_4) == 10) = true := beq_iff_eq.mpr c23
                              have c23b1 : ((bt a0 x5_4) != 10) = false := bne_eq_false_iff_eq.mpr c23
                              clear c23
                              have H' := Aside0.mk H
                              clear H
                              have p22 : 0 ≤ (x5_4 : Int) := of_decide_eq_true (by first | (with_reducible assumption) | assumption)
                              have q22 : x5_4 < (a0.size : Int) := of_decide_eq_true (by first | (with_reducible assumption) | assumption)
                              have hx22 := bt_at a0 x5_4
                              replace p22 := eq_true p22
                              replace q22 := eq_true q22
                              go_wp2
                              go_roundg k4
                              case measure => have := HK1.out; have := HJ3.out; have := HJ13.out; have := HK4.out; omega
                              case rel => exact ⟨(x5_4), (by first | rfl | (simp; done) | (simp [*]; done)), H', ⟨by have := HK1.out; have := HJ3.out; have := HJ13.out; have := HK4.out; omega⟩, by repeat (first | exact Drawn0.refl _ | apply Drawn0.step)⟩
                            · rw [if_neg c23] at H
                              have c23b0 : ((bt a0 x5_4) == 10) = false := beq_eq_false_iff_ne.mpr c23
                              have c23b1 : ((bt a0 x5_4) != 10) = true := bne_iff_ne.mpr c23
                              have H' := Aside0.mk H
                              clear H
                              have p22 : 0 ≤ (x5_4 : Int) := of_decide_eq_true (by first | (with_reducible assumption) | assumption)
                              have q22 : x5_4 < (a0.size : Int) := of_decide_eq_true (by first | (with_reducible assumption) | assumption)
                              have hx22 := bt_at a0 x5_4
                              replace p22 := eq_true p22
                              replace q22 := eq_true q22
                              go_wp2
                              go_roundg k4
                              case measure => have := HK1.out; have := HJ3.out; have := HJ13.out; have := HK4.out; omega
                              case rel => exact ⟨(wrap64 (x5_4 + 1)), (by first | rfl | (simp; done) | (simp [*]; done)), H', ⟨by have := HK1.out; have := HJ3.out; have := HJ13.out; have := HK4.out; omega⟩, by repeat (first | exact Drawn0.refl _ | apply Drawn0.step)⟩
                          · rw [if_neg c21] at H
                            exact absurd H (by simp)
                        · rw [if_neg c20] at H
                          have c20b0 : decide (x5_4 < (a0.size : Int)) = false := decide_eq_false c20
                          clear c20
                          have H' := Aside0.mk H
                          clear H
                          go_wp2
                          go_roundg k4
                          case measure => have := HK1.out; have := HJ3.out; have := HJ13.out; have := HK4.out; omega
                          case rel => exact ⟨(x5_4), (by first | rfl | (simp; done) | (simp [*]; done)), H', ⟨by have := HK1.out; have := HJ3.out; have := HJ13.out; have := HK4.out; omega⟩, by repeat (first | exact Drawn0.refl _ | apply Drawn0.step)⟩
                  · replace c19 := Bool.eq_false_iff.mpr c19
                    subst c19
                    have H1 : (some (wrap64 (x5_1 - a1))) = some r := by rw [if_neg (show ¬ (false = true) by decide)] at H; exact H
                    clear H
                    have H := H1
                    clear H1
                    obtain rfl := Option.some.inj H
                    go_wp2
                    go_ret
                    exact ⟨by first | rfl | (simp; done) | (simp [*]; done), by repeat (first | exact Drawn0.refl _ | apply Drawn0.step)⟩
      · rw [if_neg c3] at H
        have c3b0 : decide (x5_1 < (a0.size : Int)) = false := decide_eq_false c3
        clear c3
        obtain rfl := Option.some.inj H
        go_wp2
        go_ret
        exact ⟨by first | rfl | (simp; done) | (simp [*]; done), by repeat (first | exact Drawn0.refl _ | apply Drawn0.step)⟩
end Go.Proofs.YtdjcechogbcdnaaDoor.XL
namespace Go.Proofs.YtdjcechogbcdnaaDoor.XL
open Go.RowKit Go.Proofs.YtdjcechogbcdnaaDoorW.PrintWords Go.Proofs.YtdjcechogbcdnaaDoorW.PrintLast Go.Proofs.YtdjcechogbcdnaaDoorW.PrintMore
attribute [local go_sem] max2_int min2_int max_two min_two max_three min_three max_four min_four   -- for this text's walks alone
set_option linter.unusedVariables false
set_option linter.unusedSimpArgs false
mutual
def switchyardref07_digits.j0 : Nat → ByteArray → Bool → Option (Int × Bool)
  | 0, _, _ => none
  | k + 1, x0, x29 => if x29 = true then (some (0, false)) else (switchyardref07_digits.l0 k x0 0 0)
def switchyardref07_digits.l0 : Nat → ByteArray → Int → Int → Option (Int × Bool)
  | 0, _, _, _ => none
  | k + 1, x0, x5, x6 => if x6 < (x0.size : Int) then (if 0 ≤ x6 then (switchyardref07_digits.l0 k x0 (wrap64 ((wrap64 (10 * x5)) + (((bt x0 x6) - 48) % 256))) (wrap64 (x6 + 1))) else (none)) else (some (x5, true))
end
def switchyardref07_digits.f (k : Nat) (a0 : ByteArray) : Option (Int × Bool) := if (a0.size : Int) > 1 then (if 0 < (a0.size : Int) then (if (bt a0 0) = 48 then (switchyardref07_digits.j0 k a0 true) else (if (a0.size : Int) > 19 then (switchyardref07_digits.j0 k a0 true) else (if (a0.size : Int) = 19 then (switchyardref07_digits.j0 k a0 (Op.bytesLess ([57, 50, 50, 51, 51, 55, 50, 48, 51, 54, 56, 53, 52, 55, 55, 53, 56, 48, 55] : List UInt8) a0.toList)) else (switchyardref07_digits.j0 k a0 false)))) else (none)) else (if (a0.size : Int) > 19 then (switchyardref07_digits.j0 k a0 true) else (if (a0.size : Int) = 19 then (switchyardref07_digits.j0 k a0 (Op.bytesLess ([57, 50, 50, 51, 51, 55, 50, 48, 51, 54, 56, 53, 52, 55, 55, 53, 56, 48, 55] : List UInt8) a0.toList)) else (switchyardref07_digits.j0 k a0 false)))
set_option maxHeartbeats 4000000 in
set_option maxRecDepth 100000 in
theorem switchyardref07_digits.calls (k : Nat) (a0 : ByteArray) (r1 : Int) (r2 : Bool) (w : World) (h : switchyardref07_digits.f k a0 = some (r1, r2)) :
    Calls Tryd.prog 28 #[.string a0] w fun e w' => e = .returned (.tuple #[.int .i64 r1, .bool r2]) ∧ Drawn0 w w' := by
  have H : (if (a0.size : Int) > 1 then (if 0 < (a0.size : Int) then (if (bt a0 0) = 48 then (switchyardref07_digits.j0 k a0 true) else (if (a0.size : Int) > 19 then (switchyardref07_digits.j0 k a0 true) else (if (a0.size : Int) = 19 then (switchyardref07_digits.j0 k a0 (Op.bytesLess ([57, 50, 50, 51, 51, 55, 50, 48, 51, 54, 56, 53, 52, 55, 55, 53, 56, 48, 55] : List UInt8) a0.toList)) else (switchyardref07_digits.j0 k a0 false)))) else (none)) else (if (a0.size : Int) > 19 then (switchyardref07_digits.j0 k a0 true) else (if (a0.size : Int) = 19 then (switchyardref07_digits.j0 k a0 (Op.bytesLess ([57, 50, 50, 51, 51, 55, 50, 48, 51, 54, 56, 53, 52, 55, 55, 53, 56, 48, 55] : List UInt8) a0.toList)) else (switchyardref07_digits.j0 k a0 false)))) = some (r1, r2) := h
  clear h
  have HC2 := Aside0.mk H
  clear H
  go_enter Tryd.func28, Tryd.ntmps28
  go_upto_region 2 with (fail)
  go_cut [29] (fun v29 wc => ∃ (kq : Nat) (x29_1 : Bool), v29 = .bool x29_1 ∧ Aside0 (switchyardref07_digits.j0 kq a0 x29_1 = some (r1, r2)) ∧ Aside0 (kq ≤ k) ∧ Drawn0 w wc)
  case first =>
    have H := HC2.out
    clear HC2
    by_cases c3 : (a0.size : Int) > 1
    · rw [if_pos c3] at H
      have c3b0 : decide (1 < (a0.size : Int)) = true := decide_eq_true c3
      have c3b1 : decide (1 < a0.size) = true := decide_eq_true (by omega)
      clear c3
      (first | rw [c3b0] | (simp only [i64_w, i32_w]; rw [c3b0]) | skip)
      by_cases c4 : 0 < (a0.size : Int)
      · rw [if_pos c4] at H
        have c4b0 : decide (0 < (a0.size : Int)) = true := decide_eq_true c4
        have c4b1 : decide (0 < a0.size) = true := decide_eq_true (by omega)
        clear c4
        by_cases c6 : (bt a0 0) = 48
        · rw [if_pos c6] at H
          have c6b0 : ((bt a0 0) == 48) = true := beq_iff_eq.mpr c6
          have c6b1 : ((bt a0 0) != 48) = false := bne_eq_false_iff_eq.mpr c6
          clear c6
          have H' := Aside0.mk H
          clear H
          have p5 : 0 ≤ (0 : Int) := (by omega)
          have q5 : 0 < a0.size := (by have : (0 : Int) < (a0.size : Int) := of_decide_eq_true (by first | (with_reducible assumption) | assumption); omega)
          have hx5 : ∀ h : 0 < a0.size, ((a0[0]'h).toNat : Int) = bt a0 0 := bt_at a0 0
          clear p5
          have qi5 : (0 < (a0.size : Int)) = True := eq_true (of_decide_eq_true (by first | (with_reducible assumption) | assumption))
          replace q5 := eq_true q5
          go_wp2
          go_meet
          case rel => exact ⟨_, (true), (by first | rfl | (simp; done) | (simp [*]; done)), H', ⟨by first | omega | exact Nat.le_refl _⟩, by repeat (first | exact Drawn0.refl _ | apply Drawn0.step)⟩
        · rw [if_neg c6] at H
          have c6b0 : ((bt a0 0) == 48) = false := beq_eq_false_iff_ne.mpr c6
          have c6b1 : ((bt a0 0) != 48) = true := bne_iff_ne.mpr c6
          by_cases c7 : (a0.size : Int) > 19
          · rw [if_pos c7] at H
            have c7b0 : decide (19 < (a0.size : Int)) = true := decide_eq_true c7
            have c7b1 : decide (19 < a0.size) = true := decide_eq_true (by omega)
            clear c7
            have H' := Aside0.mk H
            clear H
            have p5 : 0 ≤ (0 : Int) := (by omega)
            have q5 : 0 < a0.size := (by have : (0 : Int) < (a0.size : Int) := of_decide_eq_true (by first | (with_reducible assumption) | assumption); omega)
            have hx5 : ∀ h : 0 < a0.size, ((a0[0]'h).toNat : Int) = bt a0 0 := bt_at a0 0
            clear p5
            have qi5 : (0 < (a0.size : Int)) = True := eq_true (of_decide_eq_true (by first | (with_reducible assumption) | assumption))
            replace q5 := eq_true q5
            go_wp2
            go_meet
            case rel => exact ⟨_, (true), (by first | rfl | (simp; done) | (simp [*]; done)), H', ⟨by first | omega | exact Nat.le_refl _⟩, by repeat (first | exact Drawn0.refl _ | apply Drawn0.step)⟩
          · rw [if_neg c7] at H
            have c7b0 : decide (19 < (a0.size : Int)) = false := decide_eq_false c7
            have c7b1 : decide (19 < a0.size) = false := decide_eq_false (by omega)
            clear c7
            by_cases c8 : (a0.size : Int) = 19
            · rw [if_pos c8] at H
              have c8b0 : ((a0.size : Int) == 19) = true := beq_iff_eq.mpr c8
              have c8b1 : ((a0.size : Int) != 19) = false := bne_eq_false_iff_eq.mpr c8
              clear c8
              have H' := Aside0.mk H
              clear H
              have p5 : 0 ≤ (0 : Int) := (by omega)
              have q5 : 0 < a0.size := (by have : (0 : Int) < (a0.size : Int) := of_decide_eq_true (by first | (with_reducible assumption) | assumption); omega)
              have hx5 : ∀ h : 0 < a0.size, ((a0[0]'h).toNat : Int) = bt a0 0 := bt_at a0 0
              clear p5
              have qi5 : (0 < (a0.size : Int)) = True := eq_true (of_decide_eq_true (by first | (with_reducible assumption) | assumption))
              replace q5 := eq_true q5
              go_wp2
              go_meet
              case rel => exact ⟨_, ((Op.bytesLess ([57, 50, 50, 51, 51, 55, 50, 48, 51, 54, 56, 53, 52, 55, 55, 53, 56, 48, 55] : List UInt8) a0.toList)), (by first | rfl | (simp; done) | (simp [*]; done)), H', ⟨by first | omega | exact Nat.le_refl _⟩, by repeat (first | exact Drawn0.refl _ | apply Drawn0.step)⟩
            · rw [if_neg c8] at H
              have c8b0 : ((a0.size : Int) == 19) = false := beq_eq_false_iff_ne.mpr c8
              have c8b1 : ((a0.size : Int) != 19) = true := bne_iff_ne.mpr c8
              have H' := Aside0.mk H
              clear H
              have p5 : 0 ≤ (0 : Int) := (by omega)
              have q5 : 0 < a0.size := (by have : (0 : Int) < (a0.size : Int) := of_decide_eq_true (by first | (with_reducible assumption) | assumption); omega)
              have hx5 : ∀ h : 0 < a0.size, ((a0[0]'h).toNat : Int) = bt a0 0 := bt_at a0 0
              clear p5
              have qi5 : (0 < (a0.size : Int)) = True := eq_true (of_decide_eq_true (by first | (with_reducible assumption) | assumption))
              replace q5 := eq_true q5
              go_wp2
              go_meet
              case rel => exact ⟨_, (false), (by first | rfl | (simp; done) | (simp [*]; done)), H', ⟨by first | omega | exact Nat.le_refl _⟩, by repeat (first | exact Drawn0.refl _ | apply Drawn0.step)⟩
      · rw [if_neg c4] at H
        exact absurd H (by simp)
    · rw [if_neg c3] at H
      have c3b0 : decide (1 < (a0.size : Int)) = false := decide_eq_false c3
      have c3b1 : decide (1 < a0.size) = false := decide_eq_false (by omega)
      clear c3
      (first | rw [c3b0] | (simp only [i64_w, i32_w]; rw [c3b0]) | skip)
      by_cases c9 : (a0.size : Int) > 19
      · rw [if_pos c9] at H
        have c9b0 : decide (19 < (a0.size : Int)) = true := decide_eq_true c9
        have c9b1 : decide (19 < a0.size) = true := decide_eq_true (by omega)
        clear c9
        have H' := Aside0.mk H
        clear H
        go_wp2
        go_meet
        case rel => exact ⟨_, (true), (by first | rfl | (simp; done) | (simp [*]; done)), H', ⟨by first | omega | exact Nat.le_refl _⟩, by repeat (first | exact Drawn0.refl _ | apply Drawn0.step)⟩
      · rw [if_neg c9] at H
        have c9b0 : decide (19 < (a0.size : Int)) = false := decide_eq_false c9
        have c9b1 : decide (19 < a0.size) = false := decide_eq_false (by omega)
        clear c9
        by_cases c10 : (a0.size : Int) = 19
        · rw [if_pos c10] at H
          have c10b0 : ((a0.size : Int) == 19) = true := beq_iff_eq.mpr c10
          have c10b1 : ((a0.size : Int) != 19) = false := bne_eq_false_iff_eq.mpr c10
          clear c10
          have H' := Aside0.mk H
          clear H
          go_wp2
          go_meet
          case rel => exact ⟨_, ((Op.bytesLess ([57, 50, 50, 51, 51, 55, 50, 48, 51, 54, 56, 53, 52, 55, 55, 53, 56, 48, 55] : List UInt8) a0.toList)), (by first | rfl | (simp; done) | (simp [*]; done)), H', ⟨by first | omega | exact Nat.le_refl _⟩, by repeat (first | exact Drawn0.refl _ | apply Drawn0.step)⟩
        · rw [if_neg c10] at H
          have c10b0 : ((a0.size : Int) == 19) = false := beq_eq_false_iff_ne.mpr c10
          have c10b1 : ((a0.size : Int) != 19) = true := bne_iff_ne.mpr c10
          have H' := Aside0.mk H
          clear H
          go_wp2
          go_meet
          case rel => exact ⟨_, (false), (by first | rfl | (simp; done) | (simp [*]; done)), H', ⟨by first | omega | exact Nat.le_refl _⟩, by repeat (first | exact Drawn0.refl _ | apply Drawn0.step)⟩
  case rest =>
    clear HC2
    try clear c1
    try clear c2
    try clear p2
    try clear c3
    try clear c3b0
    try clear c3b1
    try clear c4
    try clear c4b0
    try clear c4b1
    try clear p5
    try clear q5
    try clear hx5
    try clear qi5
    try clear c6
    try clear c6b0
    try clear c6b1
    try clear c7
    try clear c7b0
    try clear c7b1
    try clear c8
    try clear c8b0
    try clear c8b1
    try clear c9
    try clear c9b0
    try clear c9b1
    try clear c10
    try clear c10b0
    try clear c10b1
    try clear p5
    try clear q5
    obtain ⟨kq, x29_1, rfl, HA, HJ1, ⟨mc1, rfl⟩⟩ := hcut
    cases kq with
    | zero => exact absurd HA.out (by simp [switchyardref07_digits.j0])
    | succ kj1 =>
      have H := HA.out
      clear HA
      simp only [switchyardref07_digits.j0] at H
      by_cases c11 : x29_1 = true
      · subst c11
        have H1 : (some (0, false)) = some (r1, r2) := by rw [if_pos rfl] at H; exact H
        clear H
        have H := H1
        clear H1
        simp only [Option.some.injEq, Prod.mk.injEq] at H
        obtain ⟨rfl, rfl⟩ := H
        go_wp2
        go_ret2
        exact ⟨by first | rfl | (simp; done) | (simp [*]; done), by repeat (first | exact Drawn0.refl _ | apply Drawn0.step)⟩
      · replace c11 := Bool.eq_false_iff.mpr c11
        subst c11
        have H1 : (switchyardref07_digits.l0 kj1 a0 0 0) = some (r1, r2) := by rw [if_neg (show ¬ (false = true) by decide)] at H; exact H
        clear H
        have H := H1
        clear H1
        have H' := Aside0.mk H
        clear H
        go_wp2
        go_loopg [5, 6] kj1 (fun kq v5 v6 w' => ∃ (x5_2 : Int) (x6_2 : Int), v5 = .int .i64 x5_2 ∧ v6 = .int .i64 x6_2 ∧ Aside0 (switchyardref07_digits.l0 kq a0 x5_2 x6_2 = some (r1, r2)) ∧ Aside0 (kq ≤ kj1) ∧ Drawn0 w w')
        case atStart => exact ⟨(0), (0), (by first | rfl | (simp; done) | (simp [*]; done)), (by first | rfl | (simp; done) | (simp [*]; done)), H', ⟨Nat.le_refl _⟩, by repeat (first | exact Drawn0.refl _ | apply Drawn0.step)⟩
        case round =>
          clear H'
          try clear c1
          try clear c2
          try clear p2
          try clear c3
          try clear c3b0
          try clear c3b1
          try clear c4
          try clear c4b0
          try clear c4b1
          try clear p5
          try clear q5
          try clear hx5
          try clear qi5
          try clear c6
          try clear c6b0
          try clear c6b1
          try clear c7
          try clear c7b0
          try clear c7b1
          try clear c8
          try clear c8b0
          try clear c8b1
          try clear c9
          try clear c9b0
          try clear c9b1
          try clear c10
          try clear c10b0
          try clear c10b1
          try clear c11
          try clear p2
          try clear p5
          try clear q5
          obtain ⟨x5_2, x6_2, rfl, rfl, HA, HK2, ⟨m2, rfl⟩⟩ := hrel
          cases gk with
          | zero => exact absurd HA.out (by simp [switchyardref07_digits.l0])
          | succ k2 =>
            have H := HA.out
            clear HA
            simp only [switchyardref07_digits.l0] at H
            by_cases c12 : x6_2 < (a0.size : Int)
            · rw [if_pos c12] at H
              have c12b0 : decide (x6_2 < (a0.size : Int)) = true := decide_eq_true c12
              clear c12
              by_cases c13 : 0 ≤ x6_2
              · rw [if_pos c13] at H
                have c13b0 : decide (0 ≤ x6_2) = true := decide_eq_true c13
                clear c13
                have H' := Aside0.mk H
                clear H
                have p14 : 0 ≤ (x6_2 : Int) := of_decide_eq_true (by first | (with_reducible assumption) | assumption)
                have q14 : x6_2 < (a0.size : Int) := of_decide_eq_true (by first | (with_reducible assumption) | assumption)
                have hx14 := bt_at a0 x6_2
                replace p14 := eq_true p14
                replace q14 := eq_true q14
                go_wp2
                go_roundg k2
                case measure => have := HJ1.out; have := HK2.out; omega
                case rel => exact ⟨(wrap64 ((wrap64 (10 * x5_2)) + (((bt a0 x6_2) - 48) % 256))), (wrap64 (x6_2 + 1)), (by first | rfl | (simp; done) | (simp [*]; done)), (by first | rfl | (simp; done) | (simp [*]; done)), H', ⟨by have := HJ1.out; have := HK2.out; omega⟩, by repeat (first | exact Drawn0.refl _ | apply Drawn0.step)⟩
              · rw [if_neg c13] at H
                exact absurd H (by simp)
            · rw [if_neg c12] at H
              have c12b0 : decide (x6_2 < (a0.size : Int)) = false := decide_eq_false c12
              clear c12
              simp only [Option.some.injEq, Prod.mk.injEq] at H
              obtain ⟨rfl, rfl⟩ := H
              go_wp2
              go_ret2
              exact ⟨by first | rfl | (simp; done) | (simp [*]; done), by repeat (first | exact Drawn0.refl _ | apply Drawn0.step)⟩
end Go.Proofs.YtdjcechogbcdnaaDoor.XL
namespace Go.Proofs.YtdjcechogbcdnaaDoor.XL
open Go.RowKit Go.Proofs.YtdjcechogbcdnaaDoorW.PrintWords Go.Proofs.YtdjcechogbcdnaaDoorW.PrintLast Go.Proofs.YtdjcechogbcdnaaDoorW.PrintMore
attribute [local go_sem] max2_int min2_int max_two min_two max_three min_three max_four min_four   -- for this text's walks alone
set_option linter.unusedVariables false
set_option linter.unusedSimpArgs false
mutual
def switchyardref07_said.l0 : Nat → ByteArray → List Int → Int → Option (ByteArray × Bool)
  | 0, _, _, _ => none
  | k + 1, x0, x4, x5 => if x5 < (wrap64 ((x0.size : Int) - 1)) then (switchyardref07_said.l1 k x0 x4 x5 false 0) else (some (strOfNums x4, decide ((x4.length : Int) ≤ 64)))
def switchyardref07_said.l1 : Nat → ByteArray → List Int → Int → Bool → Int → Option (ByteArray × Bool)
  | 0, _, _, _, _, _ => none
  | k + 1, x0, x4, x5, x6, x7 => if x7 < 256 then (switchyardref07_said.j2 k x0 x4 x5 x6 x7 (!x6)) else (switchyardref07_said.j2 k x0 x4 x5 x6 x7 false)
def switchyardref07_said.j2 : Nat → ByteArray → List Int → Int → Bool → Int → Bool → Option (ByteArray × Bool)
  | 0, _, _, _, _, _, _ => none
  | k + 1, x0, x4, x5, x6, x7, x19 => if x19 = true then ((switchyardref06_Print.f k 3 0 (strOfNums (([(x7) % 256] : List Int))) ([] : List Int)).bind fun t231 => (if 1 ≤ (wrap64 ((t231.size : Int) - 1)) then (if (wrap64 ((t231.size : Int) - 1)) ≤ (t231.size : Int) then (if (wrap64 (x5 + ((t231.extract 1 ((wrap64 ((t231.size : Int) - 1)) : Int).toNat).size : Int))) ≤ (wrap64 ((x0.size : Int) - 1)) then (if 0 ≤ x5 then (if x5 ≤ (wrap64 (x5 + ((t231.extract 1 ((wrap64 ((t231.size : Int) - 1)) : Int).toNat).size : Int))) then (if (wrap64 (x5 + ((t231.extract 1 ((wrap64 ((t231.size : Int) - 1)) : Int).toNat).size : Int))) ≤ (x0.size : Int) then (if (x0.extract (x5 : Int).toNat ((wrap64 (x5 + ((t231.extract 1 ((wrap64 ((t231.size : Int) - 1)) : Int).toNat).size : Int))) : Int).toNat).toList = (t231.extract 1 ((wrap64 ((t231.size : Int) - 1)) : Int).toNat).toList then (if x4.length < 140737488355328 then (switchyardref07_said.l1 k x0 (x4 ++ [(x7) % 256]) (wrap64 (x5 + ((t231.extract 1 ((wrap64 ((t231.size : Int) - 1)) : Int).toNat).size : Int))) true (wrap64 (x7 + 1))) else (none)) else (switchyardref07_said.l1 k x0 x4 x5 x6 (wrap64 (x7 + 1)))) else (none)) else (none)) else (none)) else (switchyardref07_said.l1 k x0 x4 x5 x6 (wrap64 (x7 + 1)))) else (none)) else (none))) else (if x6 = true then (switchyardref07_said.l0 k x0 x4 x5) else (some ((⟨#[]⟩ : ByteArray), false)))
end
def switchyardref07_said.f (k : Nat) (a0 : ByteArray) : Option (ByteArray × Bool) := switchyardref07_said.l0 k a0 ([] : List Int) 1
set_option maxHeartbeats 4000000 in
set_option maxRecDepth 100000 in
theorem switchyardref07_said.calls (k : Nat) (a0 : ByteArray) (r1 : ByteArray) (r2 : Bool) (w : World) (h : switchyardref07_said.f k a0 = some (r1, r2)) :
    Calls Tryd.prog 30 #[.string a0] w fun e w' => e = .returned (.tuple #[.string r1, .bool r2]) ∧ Below w.heap.size w w' := by
  have hu60 := Tryd.underlying60
  have HB := Aside0.mk (Below.refl w.heap.size w)
  have H : (switchyardref07_said.l0 k a0 ([] : List Int) 1) = some (r1, r2) := h
  clear h
  have H' := Aside0.mk H
  clear H
  go_enter Tryd.func30, Tryd.ntmps30
  go_wp2
  go_loopg [4, 5] k (fun kq v4 v5 w' => ∃ (x4_1 : List Int) (x5_1 : Int), v5 = .int .i64 x5_1 ∧ Aside0 (switchyardref07_said.l0 kq a0 x4_1 x5_1 = some (r1, r2)) ∧ Aside0 (kq ≤ k) ∧ Aside0 (Kd.R (Kd.int .u8) 5 w' w.heap.size (fun _ => True) v4 x4_1) ∧ Aside0 (Below w.heap.size w w'))
  case atStart => exact ⟨(([] : List Int)), (1), (by first | rfl | (simp; done) | (simp [*]; done)), H', ⟨Nat.le_refl _⟩, ⟨by first | exact Kd.R_nil _ _ _ _ _ | exact Kd.N_nil _ _ _ _ _ | exact Kd.V_nil _ _ _ _ _ | exact Kd.Q_nil _ _ _ _ _ | exact Kd.S_nil _ _ _ _ _⟩, ⟨by repeat (first | (with_reducible first | exact HB.out | apply below_alloc | apply pw_below_drewN | apply below_drew1) | exact HB.out)⟩⟩
  case round =>
    clear H'
    obtain ⟨x4_1, x5_1, rfl, HA, HK1, HO_4, HB⟩ := hrel
    cases gk with
    | zero => exact absurd HA.out (by simp [switchyardref07_said.l0])
    | succ k1 =>
      have H := HA.out
      clear HA
      simp only [switchyardref07_said.l0] at H
      by_cases c2 : x5_1 < (wrap64 ((a0.size : Int) - 1))
      · rw [if_pos c2] at H
        have c2b0 : decide (x5_1 < (wrap64 ((a0.size : Int) - 1))) = true := decide_eq_true c2
        clear c2
        have H' := Aside0.mk H
        clear H
        go_wp2
        go_loopg [4, 5, 6, 7] k1 (fun kq v4 v5 v6 v7 w' => ∃ (x4_2 : List Int) (x5_2 : Int) (x6_2 : Bool) (x7_2 : Int), v5 = .int .i64 x5_2 ∧ v6 = .bool x6_2 ∧ v7 = .int .i64 x7_2 ∧ Aside0 (switchyardref07_said.l1 kq a0 x4_2 x5_2 x6_2 x7_2 = some (r1, r2)) ∧ Aside0 (kq ≤ k1) ∧ Aside0 (Kd.R (Kd.int .u8) 5 w' w.heap.size (fun _ => True) v4 x4_2) ∧ Aside0 (Below w.heap.size w w'))
        case atStart => exact ⟨(x4_1), (x5_1), (false), (0), (by first | rfl | (simp; done) | (simp [*]; done)), (by first | rfl | (simp; done) | (simp [*]; done)), (by first | rfl | (simp; done) | (simp [*]; done)), H', ⟨Nat.le_refl _⟩, ⟨by (with_reducible repeat (first | apply Kd.R_alloc | apply Kd.R_drewN | apply Kd.R_drew)); exact HO_4.out⟩, ⟨by repeat (first | (with_reducible first | exact HB.out | apply below_alloc | apply pw_below_drewN | apply below_drew1) | exact HB.out)⟩⟩
        case round =>
          clear H'
          try clear c2
          try clear c2b0
          try clear p2
          obtain ⟨x4_2, x5_2, x6_2, x7_2, rfl, rfl, rfl, HA, HK2, HO_4, HB⟩ := hrel
          cases gk with
          | zero => exact absurd HA.out (by simp [switchyardref07_said.l1])
          | succ k2 =>
            have H := HA.out
            clear HA
            simp only [switchyardref07_said.l1] at H
            have HC3 := Aside0.mk H
            clear H
            go_upto_region 6 with (fail)
            go_cut [19] (fun v19 wc => ∃ (kq : Nat) (x19_2 : Bool), v19 = .bool x19_2 ∧ Aside0 (switchyardref07_said.j2 kq a0 x4_2 x5_2 x6_2 x7_2 x19_2 = some (r1, r2)) ∧ Aside0 (kq ≤ k2) ∧ Aside0 (Kd.R (Kd.int .u8) 5 wc w.heap.size (fun _ => True) u4 x4_2) ∧ Aside0 (Below w.heap.size w wc))
            case first =>
              have H := HC3.out
              clear HC3
              by_cases c4 : x7_2 < 256
              · rw [if_pos c4] at H
                have c4b0 : decide (x7_2 < 256) = true := decide_eq_true c4
                clear c4
                (first | rw [c4b0] | (simp only [i64_w, i32_w]; rw [c4b0]) | skip)
                have H' := Aside0.mk H
                clear H
                go_wp2
                go_meet
                case rel => exact ⟨_, (!x6_2), (by first | rfl | (simp; done) | (simp [*]; done)), H', ⟨by have := HK1.out; have := HK2.out; first | omega | exact Nat.le_refl _⟩, ⟨by (with_reducible repeat (first | apply Kd.R_alloc | apply Kd.R_drewN | apply Kd.R_drew)); exact HO_4.out⟩, ⟨by repeat (first | (with_reducible first | exact HB.out | apply below_alloc | apply pw_below_drewN | apply below_drew1) | exact HB.out)⟩⟩
              · rw [if_neg c4] at H
                have c4b0 : decide (x7_2 < 256) = false := decide_eq_false c4
                clear c4
                (first | rw [c4b0] | (simp only [i64_w, i32_w]; rw [c4b0]) | skip)
                have H' := Aside0.mk H
                clear H
                go_wp2
                go_meet
                case rel => exact ⟨_, (false), (by first | rfl | (simp; done) | (simp [*]; done)), H', ⟨by have := HK1.out; have := HK2.out; first | omega | exact Nat.le_refl _⟩, ⟨by (with_reducible repeat (first | apply Kd.R_alloc | apply Kd.R_drewN | apply Kd.R_drew)); exact HO_4.out⟩, ⟨by repeat (first | (with_reducible first | exact HB.out | apply below_alloc | apply pw_below_drewN | apply below_drew1) | exact HB.out)⟩⟩
            case rest =>
              clear HC3
              try clear c2
              try clear c2b0
              try clear p2
              try clear c3
              try clear c4
              try clear c4b0
              try clear p2
              obtain ⟨kq, x19_2, rfl, HA, HJ2, HO_4, HB⟩ := hcut
              cases kq with
              | zero => exact absurd HA.out (by simp [switchyardref07_said.j2])
              | succ kj2 =>
                have H := HA.out
                clear HA
                simp only [switchyardref07_said.j2] at H
                by_cases c5 : x19_2 = true
                · subst c5
                  have H1 : ((switchyardref06_Print.f kj2 3 0 (strOfNums (([(x7_2) % 256] : List Int))) ([] : List Int)).bind fun t231 => (if 1 ≤ (wrap64 ((t231.size : Int) - 1)) then (if (wrap64 ((t231.size : Int) - 1)) ≤ (t231.size : Int) then (if (wrap64 (x5_2 + ((t231.extract 1 ((wrap64 ((t231.size : Int) - 1)) : Int).toNat).size : Int))) ≤ (wrap64 ((a0.size : Int) - 1)) then (if 0 ≤ x5_2 then (if x5_2 ≤ (wrap64 (x5_2 + ((t231.extract 1 ((wrap64 ((t231.size : Int) - 1)) : Int).toNat).size : Int))) then (if (wrap64 (x5_2 + ((t231.extract 1 ((wrap64 ((t231.size : Int) - 1)) : Int).toNat).size : Int))) ≤ (a0.size : Int) then (if (a0.extract (x5_2 : Int).toNat ((wrap64 (x5_2 + ((t231.extract 1 ((wrap64 ((t231.size : Int) - 1)) : Int).toNat).size : Int))) : Int).toNat).toList = (t231.extract 1 ((wrap64 ((t231.size : Int) - 1)) : Int).toNat).toList then (if x4_2.length < 140737488355328 then (switchyardref07_said.l1 kj2 a0 (x4_2 ++ [(x7_2) % 256]) (wrap64 (x5_2 + ((t231.extract 1 ((wrap64 ((t231.size : Int) - 1)) : Int).toNat).size : Int))) true (wrap64 (x7_2 + 1))) else (none)) else (switchyardref07_said.l1 kj2 a0 x4_2 x5_2 x6_2 (wrap64 (x7_2 + 1)))) else (none)) else (none)) else (none)) else (switchyardref07_said.l1 kj2 a0 x4_2 x5_2 x6_2 (wrap64 (x7_2 + 1)))) else (none)) else (none))) = some (r1, r2) := by rw [if_pos rfl] at H; exact H
                  clear H
                  have H := H1
                  clear H1
                  obtain ⟨y228, hy228⟩ : ∃ y_ : List Int, y_ = (([(x7_2) % 256] : List Int)) := ⟨_, rfl⟩
                  replace H : ((switchyardref06_Print.f kj2 3 0 (strOfNums y228) ([] : List Int)).bind fun t231 => (if 1 ≤ (wrap64 ((t231.size : Int) - 1)) then (if (wrap64 ((t231.size : Int) - 1)) ≤ (t231.size : Int) then (if (wrap64 (x5_2 + ((t231.extract 1 ((wrap64 ((t231.size : Int) - 1)) : Int).toNat).size : Int))) ≤ (wrap64 ((a0.size : Int) - 1)) then (if 0 ≤ x5_2 then (if x5_2 ≤ (wrap64 (x5_2 + ((t231.extract 1 ((wrap64 ((t231.size : Int) - 1)) : Int).toNat).size : Int))) then (if (wrap64 (x5_2 + ((t231.extract 1 ((wrap64 ((t231.size : Int) - 1)) : Int).toNat).size : Int))) ≤ (a0.size : Int) then (if (a0.extract (x5_2 : Int).toNat ((wrap64 (x5_2 + ((t231.extract 1 ((wrap64 ((t231.size : Int) - 1)) : Int).toNat).size : Int))) : Int).toNat).toList = (t231.extract 1 ((wrap64 ((t231.size : Int) - 1)) : Int).toNat).toList then (if x4_2.length < 140737488355328 then (switchyardref07_said.l1 kj2 a0 (x4_2 ++ [(x7_2) % 256]) (wrap64 (x5_2 + ((t231.extract 1 ((wrap64 ((t231.size : Int) - 1)) : Int).toNat).size : Int))) true (wrap64 (x7_2 + 1))) else (none)) else (switchyardref07_said.l1 kj2 a0 x4_2 x5_2 x6_2 (wrap64 (x7_2 + 1)))) else (none)) else (none)) else (none)) else (switchyardref07_said.l1 kj2 a0 x4_2 x5_2 x6_2 (wrap64 (x7_2 + 1)))) else (none)) else (none))) = some (r1, r2) := by first | (rw [hy228]; with_reducible exact H) | (have H2_ := (Option.bind_some _ _).symm.trans H; rw [hy228]; with_reducible exact H2_) | (have H2_ := (Option.bind_some _ _).symm.trans H; with_reducible exact H2_) | with_reducible exact H | (rw [hy228]; exact H) | exact H
                  have Ny228 := Aside0.mk hy228
                  clear hy228
                  replace H := Option.bind_eq_some_iff.mp H
                  obtain ⟨t231, A60, H⟩ := H
                  replace H : (if 1 ≤ (wrap64 ((t231.size : Int) - 1)) then (if (wrap64 ((t231.size : Int) - 1)) ≤ (t231.size : Int) then (if (wrap64 (x5_2 + ((t231.extract 1 ((wrap64 ((t231.size : Int) - 1)) : Int).toNat).size : Int))) ≤ (wrap64 ((a0.size : Int) - 1)) then (if 0 ≤ x5_2 then (if x5_2 ≤ (wrap64 (x5_2 + ((t231.extract 1 ((wrap64 ((t231.size : Int) - 1)) : Int).toNat).size : Int))) then (if (wrap64 (x5_2 + ((t231.extract 1 ((wrap64 ((t231.size : Int) - 1)) : Int).toNat).size : Int))) ≤ (a0.size : Int) then (if (a0.extract (x5_2 : Int).toNat ((wrap64 (x5_2 + ((t231.extract 1 ((wrap64 ((t231.size : Int) - 1)) : Int).toNat).size : Int))) : Int).toNat).toList = (t231.extract 1 ((wrap64 ((t231.size : Int) - 1)) : Int).toNat).toList then (if x4_2.length < 140737488355328 then (switchyardref07_said.l1 kj2 a0 (x4_2 ++ [(x7_2) % 256]) (wrap64 (x5_2 + ((t231.extract 1 ((wrap64 ((t231.size : Int) - 1)) : Int).toNat).size : Int))) true (wrap64 (x7_2 + 1))) else (none)) else (switchyardref07_said.l1 kj2 a0 x4_2 x5_2 x6_2 (wrap64 (x7_2 + 1)))) else (none)) else (none)) else (none)) else (switchyardref07_said.l1 kj2 a0 x4_2 x5_2 x6_2 (wrap64 (x7_2 + 1)))) else (none)) else (none)) = some (r1, r2) := H
                  have A6 := Aside0.mk A60
                  clear A60
                  by_cases c7 : 1 ≤ (wrap64 ((t231.size : Int) - 1))
                  · rw [if_pos c7] at H
                    have c7b0 := eq_true c7
                    have c7b1 : decide (1 ≤ (wrap64 ((t231.size : Int) - 1))) = true := decide_eq_true c7
                    clear c7
                    by_cases c8 : (wrap64 ((t231.size : Int) - 1)) ≤ (t231.size : Int)
                    · rw [if_pos c8] at H
                      have c8b0 := eq_true c8
                      have c8b1 : decide ((wrap64 ((t231.size : Int) - 1)) ≤ (t231.size : Int)) = true := decide_eq_true c8
                      clear c8
                      by_cases c9 : (wrap64 (x5_2 + ((t231.extract 1 ((wrap64 ((t231.size : Int) - 1)) : Int).toNat).size : Int))) ≤ (wrap64 ((a0.size : Int) - 1))
                      · rw [if_pos c9] at H
                        have c9b0 : decide ((wrap64 (x5_2 + ((t231.extract 1 ((wrap64 ((t231.size : Int) - 1)) : Int).toNat).size : Int))) ≤ (wrap64 ((a0.size : Int) - 1))) = true := decide_eq_true c9
                        clear c9
                        by_cases c10 : 0 ≤ x5_2
                        · rw [if_pos c10] at H
                          have c10b0 := eq_true c10
                          have c10b1 : decide (0 ≤ x5_2) = true := decide_eq_true c10
                          clear c10
                          by_cases c11 : x5_2 ≤ (wrap64 (x5_2 + ((t231.extract 1 ((wrap64 ((t231.size : Int) - 1)) : Int).toNat).size : Int)))
                          · rw [if_pos c11] at H
                            have c11b0 := eq_true c11
                            have c11b1 : decide (x5_2 ≤ (wrap64 (x5_2 + ((t231.extract 1 ((wrap64 ((t231.size : Int) - 1)) : Int).toNat).size : Int)))) = true := decide_eq_true c11
                            by_cases c12 : (wrap64 (x5_2 + ((t231.extract 1 ((wrap64 ((t231.size : Int) - 1)) : Int).toNat).size : Int))) ≤ (a0.size : Int)
                            · rw [if_pos c12] at H
                              have c12b0 := eq_true c12
                              have c12b1 : decide ((wrap64 (x5_2 + ((t231.extract 1 ((wrap64 ((t231.size : Int) - 1)) : Int).toNat).size : Int))) ≤ (a0.size : Int)) = true := decide_eq_true c12
                              by_cases c13 : (a0.extract (x5_2 : Int).toNat ((wrap64 (x5_2 + ((t231.extract 1 ((wrap64 ((t231.size : Int) - 1)) : Int).toNat).size : Int))) : Int).toNat).toList = (t231.extract 1 ((wrap64 ((t231.size : Int) - 1)) : Int).toNat).toList
                              · rw [if_pos c13] at H
                                have c13b0 : ((a0.extract (x5_2 : Int).toNat ((wrap64 (x5_2 + ((t231.extract 1 ((wrap64 ((t231.size : Int) - 1)) : Int).toNat).size : Int))) : Int).toNat).toList == (t231.extract 1 ((wrap64 ((t231.size : Int) - 1)) : Int).toNat).toList) = true := beq_iff_eq.mpr c13
                                have c13b1 : ((a0.extract (x5_2 : Int).toNat ((wrap64 (x5_2 + ((t231.extract 1 ((wrap64 ((t231.size : Int) - 1)) : Int).toNat).size : Int))) : Int).toNat).toList != (t231.extract 1 ((wrap64 ((t231.size : Int) - 1)) : Int).toNat).toList) = false := bne_eq_false_iff_eq.mpr c13
                                clear c13
                                by_cases c14 : x4_2.length < 140737488355328
                                · rw [if_pos c14] at H
                                  have LMc14 := Aside0.mk c14
                                  clear c14
                                  obtain ⟨y232, hy232⟩ : ∃ y_ : List Int, y_ = (x4_2 ++ [(x7_2) % 256]) := ⟨_, rfl⟩
                                  replace H : (switchyardref07_said.l1 kj2 a0 y232 (wrap64 (x5_2 + ((t231.extract 1 ((wrap64 ((t231.size : Int) - 1)) : Int).toNat).size : Int))) true (wrap64 (x7_2 + 1))) = some (r1, r2) := by first | (rw [hy232]; with_reducible exact H) | (have H2_ := (Option.bind_some _ _).symm.trans H; rw [hy232]; with_reducible exact H2_) | (have H2_ := (Option.bind_some _ _).symm.trans H; with_reducible exact H2_) | with_reducible exact H | (rw [hy232]; exact H) | exact H
                                  have Ny232 := Aside0.mk hy232
                                  clear hy232
                                  have H' := Aside0.mk H
                                  clear H
                                  (try have e_ : ((t231.extract 1 ((wrap64 ((t231.size : Int) - 1)) : Int).toNat).size : Int) = (((wrap64 ((t231.size : Int) - 1)).toNat - 1 : Nat) : Int) := by (rw [ByteArray.size_extract]; have := of_eq_true c8b0; omega))
                                  (try (have c9nb0 := c9b0; rw [e_] at c9nb0))
                                  (try (have c9nb1 := c9b1; rw [e_] at c9nb1))
                                  (try (have c10nb0 := c10b0; rw [e_] at c10nb0))
                                  (try (have c10nb1 := c10b1; rw [e_] at c10nb1))
                                  (try (have c11nb0 := c11b0; rw [e_] at c11nb0))
                                  (try (have c11nb1 := c11b1; rw [e_] at c11nb1))
                                  (try (have c12nb0 := c12b0; rw [e_] at c12nb0))
                                  (try (have c12nb1 := c12b1; rw [e_] at c12nb1))
                                  (try (have c13nb0 := c13b0; rw [e_] at c13nb0))
                                  (try (have c13nb1 := c13b1; rw [e_] at c13nb1))
                                  (try (have c14nb0 := c14b0; rw [e_] at c14nb0))
                                  (try (have c14nb1 := c14b1; rw [e_] at c14nb1))
                                  (try (have c15nb0 := c15b0; rw [e_] at c15nb0))
                                  (try (have c15nb1 := c15b1; rw [e_] at c15nb1))
                                  (try clear e_)
                                  go_wp2_with (first | ((with_reducible refine gate_dst (N := 24) rfl ?_); (try (refine gate_guard (by rfl) ?_; dsimp only)); refine Kd.R_lit (Kd.int .u8) _ 5 ?hg (N := 24) ?hd (xs := ([(x7_2) % 256] : List Int)) (inner := [.int .u8 ((x7_2) % 256)]) (ok := fun _ => True) (okp := fun _ => True) ?hr ?hp (fun _ hk => hk) trivial (Below.refl _ _) (Nat.le_refl _) (by simp) ?_; (case hd => rfl); (case hg => rfl); (case hr => first | (go_simp; done) | (go_simp; rfl)); (case hp => exact (Reps.one (show Kd.M (Kd.int .u8) _ _ _ ((x7_2) % 256) [.int .u8 ((x7_2) % 256)] from rfl) (Reps.none _ _))); intro v229 w15 ho16 hb hg_ hnew_; clear hg_ hnew_; (first | rw [← Ny228.out] at ho16 | (simp only [Int.reduceToNat] at ho16; rw [← Ny228.out] at ho16)); have n0_ := Aside0.mk (Kd.R_elder' (by (with_reducible repeat (first | apply Kd.R_alloc | apply Kd.R_drewN | apply Kd.R_drew)); exact HO_4.out) (Kd.R_base ho16) hb); have n1_ := Aside0.mk (Kd.R_lower (Kd.R_new' ho16 (Kd.R_lt (by (with_reducible repeat (first | apply Kd.R_alloc | apply Kd.R_drewN | apply Kd.R_drew)); exact HO_4.out))) (below_size (by repeat (first | (with_reducible first | exact HB.out | apply below_alloc | apply pw_below_drewN | apply below_drew1) | exact HB.out)))); have n2_ := Aside0.mk (below_step (by repeat (first | (with_reducible first | exact HB.out | apply below_alloc | apply pw_below_drewN | apply below_drew1) | exact HB.out)) hb); clear HO_4; clear HB; have HO_4 := n0_; have HO230 := n1_; have HB := n2_; clear n0_ n1_ n2_; clear hb ho16; have hcv17 := own_string (P := Tryd.prog) Tryd.underlying62 Tryd.underlying5 Tryd.underlying9 (Kd.own_of_R HO230.out)) | ((with_reducible refine gate_callee (f := 42) rfl ?_); refine goesL_ (some 27) rfl rfl Tryd.func42 (by kernel_rfl) rfl #[.agg #[.int .i64 3, .int .i64 0, .string (strOfNums y228), .slice none 0 0]] rfl (by (try simp only [List.map_toArray, List.map_cons, List.map_nil]); first | done | rfl | (simp only [List.length_drop, List.length_take]; rfl)) ?_; (refine (switchyardref06_Print.calls kj2 3 0 (strOfNums y228) _ _ ([] : List Int) t231 _ ?side1 ?side2 A6.out).mono ?_); (case side1 => exact Kd.C_nil _ _); (case side2 => exact Nat.le_refl _); rintro e w18 ⟨rfl, hb⟩; refine ⟨_, rfl, ?_⟩; have n0_ := Aside0.mk (Kd.R_below (by (with_reducible repeat (first | apply Kd.R_alloc | apply Kd.R_drewN | apply Kd.R_drew)); exact HO_4.out) hb); have n1_ := Aside0.mk (Kd.R_below (by (with_reducible repeat (first | apply Kd.R_alloc | apply Kd.R_drewN | apply Kd.R_drew)); exact HO230.out) hb); have n2_ := Aside0.mk (below_step (by repeat (first | (with_reducible first | exact HB.out | apply below_alloc | apply pw_below_drewN | apply below_drew1) | exact HB.out)) hb); clear HO_4; clear HO230; clear HB; have HO_4 := n0_; have HO230 := n1_; have HB := n2_; clear n0_ n1_ n2_; (try clear hb); (try clear hb2); (try clear hk); (try clear hi)) | ((with_reducible refine gate_builtin (b := .append) (xs := #[.tmp 52, .tmp 55]) rfl ?_); (try (refine gate_guard (by rfl) ?_; dsimp only)); at_builtin; refine Kd.R_append (Kd.int .u8) (w0 := w) w.heap.size rfl (.tmp 52) (.tmp 55) 62 5 (.int .u8 0) 1 rfl Tryd.underlying62 info5 rfl (by decide) (by omega) u4 x4_2 ((x7_2) % 256) [.int .u8 ((x7_2) % 256)] (fun k_ => some k_ ≠ (v229 : Value).ownBlock) (fun _ => False) rfl rfl ?aP (fun _ hk => hk.elim) ?aF ?aO ?aB ?aS ?aL ?_; (case aP => exact rfl); (case aB => exact (by repeat (first | (with_reducible first | exact HB.out | apply below_alloc | apply pw_below_drewN | apply below_drew1) | exact HB.out))); (case aF => exact (fun k_ hk => Kd.fresh' (Kd.R_lt (by (with_reducible repeat (first | apply Kd.R_alloc | apply Kd.R_drewN | apply Kd.R_drew)); exact HO230.out)) k_ hk)); (case aO => exact (by (with_reducible repeat (first | apply Kd.R_alloc | apply Kd.R_drewN | apply Kd.R_drew)); exact Kd.R_mono HO_4.out (fun _ hk => hk.2))); (case aS => exact (below_size (by repeat (first | (with_reducible first | exact HB.out | apply below_alloc | apply pw_below_drewN | apply below_drew1) | exact HB.out)))); (case aL => have := LMc14.out; omega); intro v233 w19 ho hb hg hat; rw [← Ny232.out] at ho; have n0_ := Aside0.mk (Kd.R_after (ok := (fun _ => True)) (by (with_reducible repeat (first | apply Kd.R_alloc | apply Kd.R_drewN | apply Kd.R_drew)); exact HO230.out) hg hat); have n1_ := Aside0.mk (hb); have n2_ := Aside0.mk (ho); clear HO230; clear HB; clear HO_4; have HO230 := n0_; have HB := n1_; have HO234 := n2_; clear n0_ n1_ n2_; clear ho hb hg hat))
                                  go_roundg kj2
                                  case measure => have := HK1.out; have := HK2.out; have := HJ2.out; omega
                                  case rel => exact ⟨(y232), (wrap64 (x5_2 + ((t231.extract 1 ((wrap64 ((t231.size : Int) - 1)) : Int).toNat).size : Int))), (true), (wrap64 (x7_2 + 1)), (by first | rfl | (simp; done) | (simp [*]; done)), (by first | rfl | (simp; done) | (simp [*]; done)), (by first | rfl | (simp; done) | (simp [*]; done)), H', ⟨by have := HK1.out; have := HK2.out; have := HJ2.out; omega⟩, ⟨by (with_reducible repeat (first | apply Kd.R_alloc | apply Kd.R_drewN | apply Kd.R_drew)); exact Kd.R_mono HO234.out (fun _ hk => trivial)⟩, ⟨by repeat (first | (with_reducible first | exact HB.out | apply below_alloc | apply pw_below_drewN | apply below_drew1) | exact HB.out)⟩⟩
                                · rw [if_neg c14] at H
                                  exact absurd H (by simp)
                              · rw [if_neg c13] at H
                                have c13b0 : ((a0.extract (x5_2 : Int).toNat ((wrap64 (x5_2 + ((t231.extract 1 ((wrap64 ((t231.size : Int) - 1)) : Int).toNat).size : Int))) : Int).toNat).toList == (t231.extract 1 ((wrap64 ((t231.size : Int) - 1)) : Int).toNat).toList) = false := beq_eq_false_iff_ne.mpr c13
                                have c13b1 : ((a0.extract (x5_2 : Int).toNat ((wrap64 (x5_2 + ((t231.extract 1 ((wrap64 ((t231.size : Int) - 1)) : Int).toNat).size : Int))) : Int).toNat).toList != (t231.extract 1 ((wrap64 ((t231.size : Int) - 1)) : Int).toNat).toList) = true := bne_iff_ne.mpr c13
                                have H' := Aside0.mk H
                                clear H
                                (try have e_ : ((t231.extract 1 ((wrap64 ((t231.size : Int) - 1)) : Int).toNat).size : Int) = (((wrap64 ((t231.size : Int) - 1)).toNat - 1 : Nat) : Int) := by (rw [ByteArray.size_extract]; have := of_eq_true c8b0; omega))
                                (try (have c9nb0 := c9b0; rw [e_] at c9nb0))
                                (try (have c9nb1 := c9b1; rw [e_] at c9nb1))
                                (try (have c10nb0 := c10b0; rw [e_] at c10nb0))
                                (try (have c10nb1 := c10b1; rw [e_] at c10nb1))
                                (try (have c11nb0 := c11b0; rw [e_] at c11nb0))
                                (try (have c11nb1 := c11b1; rw [e_] at c11nb1))
                                (try (have c12nb0 := c12b0; rw [e_] at c12nb0))
                                (try (have c12nb1 := c12b1; rw [e_] at c12nb1))
                                (try (have c13nb0 := c13b0; rw [e_] at c13nb0))
                                (try (have c13nb1 := c13b1; rw [e_] at c13nb1))
                                (try (have c14nb0 := c14b0; rw [e_] at c14nb0))
                                (try (have c14nb1 := c14b1; rw [e_] at c14nb1))
                                (try (have c15nb0 := c15b0; rw [e_] at c15nb0))
                                (try (have c15nb1 := c15b1; rw [e_] at c15nb1))
                                (try clear e_)
                                go_wp2_with (first | ((with_reducible refine gate_dst (N := 24) rfl ?_); (try (refine gate_guard (by rfl) ?_; dsimp only)); refine Kd.R_lit (Kd.int .u8) _ 5 ?hg (N := 24) ?hd (xs := ([(x7_2) % 256] : List Int)) (inner := [.int .u8 ((x7_2) % 256)]) (ok := fun _ => True) (okp := fun _ => True) ?hr ?hp (fun _ hk => hk) trivial (Below.refl _ _) (Nat.le_refl _) (by simp) ?_; (case hd => rfl); (case hg => rfl); (case hr => first | (go_simp; done) | (go_simp; rfl)); (case hp => exact (Reps.one (show Kd.M (Kd.int .u8) _ _ _ ((x7_2) % 256) [.int .u8 ((x7_2) % 256)] from rfl) (Reps.none _ _))); intro v229 w20 ho21 hb hg_ hnew_; clear hg_ hnew_; (first | rw [← Ny228.out] at ho21 | (simp only [Int.reduceToNat] at ho21; rw [← Ny228.out] at ho21)); have n0_ := Aside0.mk (Kd.R_elder' (by (with_reducible repeat (first | apply Kd.R_alloc | apply Kd.R_drewN | apply Kd.R_drew)); exact HO_4.out) (Kd.R_base ho21) hb); have n1_ := Aside0.mk (Kd.R_lower (Kd.R_new' ho21 (Kd.R_lt (by (with_reducible repeat (first | apply Kd.R_alloc | apply Kd.R_drewN | apply Kd.R_drew)); exact HO_4.out))) (below_size (by repeat (first | (with_reducible first | exact HB.out | apply below_alloc | apply pw_below_drewN | apply below_drew1) | exact HB.out)))); have n2_ := Aside0.mk (below_step (by repeat (first | (with_reducible first | exact HB.out | apply below_alloc | apply pw_below_drewN | apply below_drew1) | exact HB.out)) hb); clear HO_4; clear HB; have HO_4 := n0_; have HO230 := n1_; have HB := n2_; clear n0_ n1_ n2_; clear hb ho21; have hcv22 := own_string (P := Tryd.prog) Tryd.underlying62 Tryd.underlying5 Tryd.underlying9 (Kd.own_of_R HO230.out)) | ((with_reducible refine gate_callee (f := 42) rfl ?_); refine goesL_ (some 27) rfl rfl Tryd.func42 (by kernel_rfl) rfl #[.agg #[.int .i64 3, .int .i64 0, .string (strOfNums y228), .slice none 0 0]] rfl (by (try simp only [List.map_toArray, List.map_cons, List.map_nil]); first | done | rfl | (simp only [List.length_drop, List.length_take]; rfl)) ?_; (refine (switchyardref06_Print.calls kj2 3 0 (strOfNums y228) _ _ ([] : List Int) t231 _ ?side1 ?side2 A6.out).mono ?_); (case side1 => exact Kd.C_nil _ _); (case side2 => exact Nat.le_refl _); rintro e w23 ⟨rfl, hb⟩; refine ⟨_, rfl, ?_⟩; have n0_ := Aside0.mk (Kd.R_below (by (with_reducible repeat (first | apply Kd.R_alloc | apply Kd.R_drewN | apply Kd.R_drew)); exact HO_4.out) hb); have n1_ := Aside0.mk (Kd.R_below (by (with_reducible repeat (first | apply Kd.R_alloc | apply Kd.R_drewN | apply Kd.R_drew)); exact HO230.out) hb); have n2_ := Aside0.mk (below_step (by repeat (first | (with_reducible first | exact HB.out | apply below_alloc | apply pw_below_drewN | apply below_drew1) | exact HB.out)) hb); clear HO_4; clear HO230; clear HB; have HO_4 := n0_; have HO230 := n1_; have HB := n2_; clear n0_ n1_ n2_; (try clear hb); (try clear hb2); (try clear hk); (try clear hi)))
                                go_roundg kj2
                                case measure => have := HK1.out; have := HK2.out; have := HJ2.out; omega
                                case rel => exact ⟨(x4_2), (x5_2), (x6_2), (wrap64 (x7_2 + 1)), (by first | rfl | (simp; done) | (simp [*]; done)), (by first | rfl | (simp; done) | (simp [*]; done)), (by first | rfl | (simp; done) | (simp [*]; done)), H', ⟨by have := HK1.out; have := HK2.out; have := HJ2.out; omega⟩, ⟨by (with_reducible repeat (first | apply Kd.R_alloc | apply Kd.R_drewN | apply Kd.R_drew)); exact Kd.R_mono HO_4.out (fun _ hk => trivial)⟩, ⟨by repeat (first | (with_reducible first | exact HB.out | apply below_alloc | apply pw_below_drewN | apply below_drew1) | exact HB.out)⟩⟩
                            · rw [if_neg c12] at H
                              exact absurd H (by simp)
                          · rw [if_neg c11] at H
                            exact absurd H (by simp)
                        · rw [if_neg c10] at H
                          exact absurd H (by simp)
                      · rw [if_neg c9] at H
                        have c9b0 : decide ((wrap64 (x5_2 + ((t231.extract 1 ((wrap64 ((t231.size : Int) - 1)) : Int).toNat).size : Int))) ≤ (wrap64 ((a0.size : Int) - 1))) = false := decide_eq_false c9
                        clear c9
                        have H' := Aside0.mk H
                        clear H
                        (try have e_ : ((t231.extract 1 ((wrap64 ((t231.size : Int) - 1)) : Int).toNat).size : Int) = (((wrap64 ((t231.size : Int) - 1)).toNat - 1 : Nat) : Int) := by (rw [ByteArray.size_extract]; have := of_eq_true c8b0; omega))
                        (try (have c9nb0 := c9b0; rw [e_] at c9nb0))
                        (try (have c9nb1 := c9b1; rw [e_] at c9nb1))
                        (try (have c10nb0 := c10b0; rw [e_] at c10nb0))
                        (try (have c10nb1 := c10b1; rw [e_] at c10nb1))
                        (try (have c11nb0 := c11b0; rw [e_] at c11nb0))
                        (try (have c11nb1 := c11b1; rw [e_] at c11nb1))
                        (try (have c12nb0 := c12b0; rw [e_] at c12nb0))
                        (try (have c12nb1 := c12b1; rw [e_] at c12nb1))
                        (try (have c13nb0 := c13b0; rw [e_] at c13nb0))
                        (try (have c13nb1 := c13b1; rw [e_] at c13nb1))
                        (try (have c14nb0 := c14b0; rw [e_] at c14nb0))
                        (try (have c14nb1 := c14b1; rw [e_] at c14nb1))
                        (try (have c15nb0 := c15b0; rw [e_] at c15nb0))
                        (try (have c15nb1 := c15b1; rw [e_] at c15nb1))
                        (try clear e_)
                        go_wp2_with (first | ((with_reducible refine gate_dst (N := 24) rfl ?_); (try (refine gate_guard (by rfl) ?_; dsimp only)); refine Kd.R_lit (Kd.int .u8) _ 5 ?hg (N := 24) ?hd (xs := ([(x7_2) % 256] : List Int)) (inner := [.int .u8 ((x7_2) % 256)]) (ok := fun _ => True) (okp := fun _ => True) ?hr ?hp (fun _ hk => hk) trivial (Below.refl _ _) (Nat.le_refl _) (by simp) ?_; (case hd => rfl); (case hg => rfl); (case hr => first | (go_simp; done) | (go_simp; rfl)); (case hp => exact (Reps.one (show Kd.M (Kd.int .u8) _ _ _ ((x7_2) % 256) [.int .u8 ((x7_2) % 256)] from rfl) (Reps.none _ _))); intro v229 w24 ho25 hb hg_ hnew_; clear hg_ hnew_; (first | rw [← Ny228.out] at ho25 | (simp only [Int.reduceToNat] at ho25; rw [← Ny228.out] at ho25)); have n0_ := Aside0.mk (Kd.R_elder' (by (with_reducible repeat (first | apply Kd.R_alloc | apply Kd.R_drewN | apply Kd.R_drew)); exact HO_4.out) (Kd.R_base ho25) hb); have n1_ := Aside0.mk (Kd.R_lower (Kd.R_new' ho25 (Kd.R_lt (by (with_reducible repeat (first | apply Kd.R_alloc | apply Kd.R_drewN | apply Kd.R_drew)); exact HO_4.out))) (below_size (by repeat (first | (with_reducible first | exact HB.out | apply below_alloc | apply pw_below_drewN | apply below_drew1) | exact HB.out)))); have n2_ := Aside0.mk (below_step (by repeat (first | (with_reducible first | exact HB.out | apply below_alloc | apply pw_below_drewN | apply below_drew1) | exact HB.out)) hb); clear HO_4; clear HB; have HO_4 := n0_; have HO230 := n1_; have HB := n2_; clear n0_ n1_ n2_; clear hb ho25; have hcv26 := own_string (P := Tryd.prog) Tryd.underlying62 Tryd.underlying5 Tryd.underlying9 (Kd.own_of_R HO230.out)) | ((with_reducible refine gate_callee (f := 42) rfl ?_); refine goesL_ (some 27) rfl rfl Tryd.func42 (by kernel_rfl) rfl #[.agg #[.int .i64 3, .int .i64 0, .string (strOfNums y228), .slice none 0 0]] rfl (by (try simp only [List.map_toArray, List.map_cons, List.map_nil]); first | done | rfl | (simp only [List.length_drop, List.length_take]; rfl)) ?_; (refine (switchyardref06_Print.calls kj2 3 0 (strOfNums y228) _ _ ([] : List Int) t231 _ ?side1 ?side2 A6.out).mono ?_); (case side1 => exact Kd.C_nil _ _); (case side2 => exact Nat.le_refl _); rintro e w27 ⟨rfl, hb⟩; refine ⟨_, rfl, ?_⟩; have n0_ := Aside0.mk (Kd.R_below (by (with_reducible repeat (first | apply Kd.R_alloc | apply Kd.R_drewN | apply Kd.R_drew)); exact HO_4.out) hb); have n1_ := Aside0.mk (Kd.R_below (by (with_reducible repeat (first | apply Kd.R_alloc | apply Kd.R_drewN | apply Kd.R_drew)); exact HO230.out) hb); have n2_ := Aside0.mk (below_step (by repeat (first | (with_reducible first | exact HB.out | apply below_alloc | apply pw_below_drewN | apply below_drew1) | exact HB.out)) hb); clear HO_4; clear HO230; clear HB; have HO_4 := n0_; have HO230 := n1_; have HB := n2_; clear n0_ n1_ n2_; (try clear hb); (try clear hb2); (try clear hk); (try clear hi)))
                        go_roundg kj2
                        case measure => have := HK1.out; have := HK2.out; have := HJ2.out; omega
                        case rel => exact ⟨(x4_2), (x5_2), (x6_2), (wrap64 (x7_2 + 1)), (by first | rfl | (simp; done) | (simp [*]; done)), (by first | rfl | (simp; done) | (simp [*]; done)), (by first | rfl | (simp; done) | (simp [*]; done)), H', ⟨by have := HK1.out; have := HK2.out; have := HJ2.out; omega⟩, ⟨by (with_reducible repeat (first | apply Kd.R_alloc | apply Kd.R_drewN | apply Kd.R_drew)); exact Kd.R_mono HO_4.out (fun _ hk => trivial)⟩, ⟨by repeat (first | (with_reducible first | exact HB.out | apply below_alloc | apply pw_below_drewN | apply below_drew1) | exact HB.out)⟩⟩
                    · rw [if_neg c8] at H
                      exact absurd H (by simp)
                  · rw [if_neg c7] at H
                    exact absurd H (by simp)
                · replace c5 := Bool.eq_false_iff.mpr c5
                  subst c5
                  have H1 : (if x6_2 = true then (switchyardref07_said.l0 kj2 a0 x4_2 x5_2) else (some ((⟨#[]⟩ : ByteArray), false))) = some (r1, r2) := by rw [if_neg (show ¬ (false = true) by decide)] at H; exact H
                  clear H
                  have H := H1
                  clear H1
                  by_cases c28 : x6_2 = true
                  · subst c28
                    have H1 : (switchyardref07_said.l0 kj2 a0 x4_2 x5_2) = some (r1, r2) := by rw [if_pos rfl] at H; exact H
                    clear H
                    have H := H1
                    clear H1
                    have H' := Aside0.mk H
                    clear H
                    go_wp2
                    go_roundg kj2
                    case measure => have := HK1.out; have := HK2.out; have := HJ2.out; omega
                    case rel => exact ⟨(x4_2), (x5_2), (by first | rfl | (simp; done) | (simp [*]; done)), H', ⟨by have := HK1.out; have := HK2.out; have := HJ2.out; omega⟩, ⟨by (with_reducible repeat (first | apply Kd.R_alloc | apply Kd.R_drewN | apply Kd.R_drew)); exact HO_4.out⟩, ⟨by repeat (first | (with_reducible first | exact HB.out | apply below_alloc | apply pw_below_drewN | apply below_drew1) | exact HB.out)⟩⟩
                  · replace c28 := Bool.eq_false_iff.mpr c28
                    subst c28
                    have H1 : (some ((⟨#[]⟩ : ByteArray), false)) = some (r1, r2) := by rw [if_neg (show ¬ (false = true) by decide)] at H; exact H
                    clear H
                    have H := H1
                    clear H1
                    simp only [Option.some.injEq, Prod.mk.injEq] at H
                    obtain ⟨rfl, rfl⟩ := H
                    go_wp2
                    go_ret2
                    exact ⟨by first | rfl | (simp [errW_none, errW_some] <;> rfl) | (simp [*, errW_none, errW_some] <;> rfl), by repeat (first | (with_reducible first | exact HB.out | apply below_alloc | apply pw_below_drewN | apply below_drew1) | exact HB.out)⟩
      · rw [if_neg c2] at H
        have c2b0 : decide (x5_1 < (wrap64 ((a0.size : Int) - 1))) = false := decide_eq_false c2
        clear c2
        simp only [Option.some.injEq, Prod.mk.injEq] at H
        obtain ⟨rfl, rfl⟩ := H
        have hcv29 := own_string (P := Tryd.prog) Tryd.underlying62 Tryd.underlying5 Tryd.underlying9 (Kd.own_of_R HO_4.out)
        obtain ⟨Ao30, co30, eo30⟩ := Kd.R_slice HO_4.out
        subst eo30
        go_wp2
        go_ret2
        exact ⟨by first | rfl | (simp [errW_none, errW_some] <;> rfl) | (simp [*, errW_none, errW_some] <;> rfl), by repeat (first | (with_reducible first | exact HB.out | apply below_alloc | apply pw_below_drewN | apply below_drew1) | exact HB.out)⟩
def switchyardref07_signs.f  : Option (List ByteArray) := some (([(⟨#[45, 62]⟩ : ByteArray), (⟨#[46, 46]⟩ : ByteArray), (⟨#[61, 61]⟩ : ByteArray), (⟨#[33, 61]⟩ : ByteArray), (⟨#[60, 61]⟩ : ByteArray), (⟨#[62, 61]⟩ : ByteArray), (⟨#[38, 38]⟩ : ByteArray), (⟨#[124, 124]⟩ : ByteArray), (⟨#[123]⟩ : ByteArray), (⟨#[125]⟩ : ByteArray), (⟨#[40]⟩ : ByteArray), (⟨#[41]⟩ : ByteArray), (⟨#[91]⟩ : ByteArray), (⟨#[93]⟩ : ByteArray), (⟨#[59]⟩ : ByteArray), (⟨#[58]⟩ : ByteArray), (⟨#[44]⟩ : ByteArray), (⟨#[46]⟩ : ByteArray), (⟨#[61]⟩ : ByteArray), (⟨#[60]⟩ : ByteArray), (⟨#[62]⟩ : ByteArray), (⟨#[43]⟩ : ByteArray), (⟨#[45]⟩ : ByteArray), (⟨#[42]⟩ : ByteArray), (⟨#[47]⟩ : ByteArray), (⟨#[37]⟩ : ByteArray), (⟨#[33]⟩ : ByteArray)] : List ByteArray))
set_option maxHeartbeats 4000000 in
set_option maxRecDepth 100000 in
theorem switchyardref07_signs.calls  (r : List ByteArray) (w : World) (h : switchyardref07_signs.f  = some r) :
    Calls Tryd.prog 31 #[] w fun e w' => ∃ v0_ : Value, e = .returned (v0_) ∧ Kd.R Kd.string 9 w' w.heap.size (fun _ => True) v0_ r ∧ Below w.heap.size w w' := by
  have HB := Aside0.mk (Below.refl w.heap.size w)
  have H : (some (([(⟨#[45, 62]⟩ : ByteArray), (⟨#[46, 46]⟩ : ByteArray), (⟨#[61, 61]⟩ : ByteArray), (⟨#[33, 61]⟩ : ByteArray), (⟨#[60, 61]⟩ : ByteArray), (⟨#[62, 61]⟩ : ByteArray), (⟨#[38, 38]⟩ : ByteArray), (⟨#[124, 124]⟩ : ByteArray), (⟨#[123]⟩ : ByteArray), (⟨#[125]⟩ : ByteArray), (⟨#[40]⟩ : ByteArray), (⟨#[41]⟩ : ByteArray), (⟨#[91]⟩ : ByteArray), (⟨#[93]⟩ : ByteArray), (⟨#[59]⟩ : ByteArray), (⟨#[58]⟩ : ByteArray), (⟨#[44]⟩ : ByteArray), (⟨#[46]⟩ : ByteArray), (⟨#[61]⟩ : ByteArray), (⟨#[60]⟩ : ByteArray), (⟨#[62]⟩ : ByteArray), (⟨#[43]⟩ : ByteArray), (⟨#[45]⟩ : ByteArray), (⟨#[42]⟩ : ByteArray), (⟨#[47]⟩ : ByteArray), (⟨#[37]⟩ : ByteArray), (⟨#[33]⟩ : ByteArray)] : List ByteArray))) = some r := h
  clear h
  obtain ⟨y235, hy235⟩ : ∃ y_ : List ByteArray, y_ = (([(⟨#[45, 62]⟩ : ByteArray), (⟨#[46, 46]⟩ : ByteArray), (⟨#[61, 61]⟩ : ByteArray), (⟨#[33, 61]⟩ : ByteArray), (⟨#[60, 61]⟩ : ByteArray), (⟨#[62, 61]⟩ : ByteArray), (⟨#[38, 38]⟩ : ByteArray), (⟨#[124, 124]⟩ : ByteArray), (⟨#[123]⟩ : ByteArray), (⟨#[125]⟩ : ByteArray), (⟨#[40]⟩ : ByteArray), (⟨#[41]⟩ : ByteArray), (⟨#[91]⟩ : ByteArray), (⟨#[93]⟩ : ByteArray), (⟨#[59]⟩ : ByteArray), (⟨#[58]⟩ : ByteArray), (⟨#[44]⟩ : ByteArray), (⟨#[46]⟩ : ByteArray), (⟨#[61]⟩ : ByteArray), (⟨#[60]⟩ : ByteArray), (⟨#[62]⟩ : ByteArray), (⟨#[43]⟩ : ByteArray), (⟨#[45]⟩ : ByteArray), (⟨#[42]⟩ : ByteArray), (⟨#[47]⟩ : ByteArray), (⟨#[37]⟩ : ByteArray), (⟨#[33]⟩ : ByteArray)] : List ByteArray)) := ⟨_, rfl⟩
  replace H : (some y235) = some r := by first | (rw [hy235]; with_reducible exact H) | (have H2_ := (Option.bind_some _ _).symm.trans H; rw [hy235]; with_reducible exact H2_) | (have H2_ := (Option.bind_some _ _).symm.trans H; with_reducible exact H2_) | with_reducible exact H | (rw [hy235]; exact H) | exact H
  have Ny235 := Aside0.mk hy235
  clear hy235
  obtain rfl := Option.some.inj H
  go_enter Tryd.func31, Tryd.ntmps31
  go_wp2_with (first | ((with_reducible refine gate_dst (N := 1) rfl ?_); refine Kd.R_lit Kd.string _ 9 ?hg (N := 1) ?hd (xs := ([(⟨#[45, 62]⟩ : ByteArray), (⟨#[46, 46]⟩ : ByteArray), (⟨#[61, 61]⟩ : ByteArray), (⟨#[33, 61]⟩ : ByteArray), (⟨#[60, 61]⟩ : ByteArray), (⟨#[62, 61]⟩ : ByteArray), (⟨#[38, 38]⟩ : ByteArray), (⟨#[124, 124]⟩ : ByteArray), (⟨#[123]⟩ : ByteArray), (⟨#[125]⟩ : ByteArray), (⟨#[40]⟩ : ByteArray), (⟨#[41]⟩ : ByteArray), (⟨#[91]⟩ : ByteArray), (⟨#[93]⟩ : ByteArray), (⟨#[59]⟩ : ByteArray), (⟨#[58]⟩ : ByteArray), (⟨#[44]⟩ : ByteArray), (⟨#[46]⟩ : ByteArray), (⟨#[61]⟩ : ByteArray), (⟨#[60]⟩ : ByteArray), (⟨#[62]⟩ : ByteArray), (⟨#[43]⟩ : ByteArray), (⟨#[45]⟩ : ByteArray), (⟨#[42]⟩ : ByteArray), (⟨#[47]⟩ : ByteArray), (⟨#[37]⟩ : ByteArray), (⟨#[33]⟩ : ByteArray)] : List ByteArray)) (inner := [.string (⟨#[45, 62]⟩ : ByteArray), .string (⟨#[46, 46]⟩ : ByteArray), .string (⟨#[61, 61]⟩ : ByteArray), .string (⟨#[33, 61]⟩ : ByteArray), .string (⟨#[60, 61]⟩ : ByteArray), .string (⟨#[62, 61]⟩ : ByteArray), .string (⟨#[38, 38]⟩ : ByteArray), .string (⟨#[124, 124]⟩ : ByteArray), .string (⟨#[123]⟩ : ByteArray), .string (⟨#[125]⟩ : ByteArray), .string (⟨#[40]⟩ : ByteArray), .string (⟨#[41]⟩ : ByteArray), .string (⟨#[91]⟩ : ByteArray), .string (⟨#[93]⟩ : ByteArray), .string (⟨#[59]⟩ : ByteArray), .string (⟨#[58]⟩ : ByteArray), .string (⟨#[44]⟩ : ByteArray), .string (⟨#[46]⟩ : ByteArray), .string (⟨#[61]⟩ : ByteArray), .string (⟨#[60]⟩ : ByteArray), .string (⟨#[62]⟩ : ByteArray), .string (⟨#[43]⟩ : ByteArray), .string (⟨#[45]⟩ : ByteArray), .string (⟨#[42]⟩ : ByteArray), .string (⟨#[47]⟩ : ByteArray), .string (⟨#[37]⟩ : ByteArray), .string (⟨#[33]⟩ : ByteArray)]) (ok := fun _ => True) (okp := fun _ => True) ?hr ?hp (fun _ hk => hk) trivial (Below.refl _ _) (Nat.le_refl _) (by simp) ?_; (case hd => rfl); (case hg => rfl); (case hr => first | (go_simp; done) | (go_simp; rfl)); (case hp => exact (Reps.one (show Kd.M Kd.string _ _ _ (⟨#[45, 62]⟩ : ByteArray) [.string (⟨#[45, 62]⟩ : ByteArray)] from rfl) (Reps.one (show Kd.M Kd.string _ _ _ (⟨#[46, 46]⟩ : ByteArray) [.string (⟨#[46, 46]⟩ : ByteArray)] from rfl) (Reps.one (show Kd.M Kd.string _ _ _ (⟨#[61, 61]⟩ : ByteArray) [.string (⟨#[61, 61]⟩ : ByteArray)] from rfl) (Reps.one (show Kd.M Kd.string _ _ _ (⟨#[33, 61]⟩ : ByteArray) [.string (⟨#[33, 61]⟩ : ByteArray)] from rfl) (Reps.one (show Kd.M Kd.string _ _ _ (⟨#[60, 61]⟩ : ByteArray) [.string (⟨#[60, 61]⟩ : ByteArray)] from rfl) (Reps.one (show Kd.M Kd.string _ _ _ (⟨#[62, 61]⟩ : ByteArray) [.string (⟨#[62, 61]⟩ : ByteArray)] from rfl) (Reps.one (show Kd.M Kd.string _ _ _ (⟨#[38, 38]⟩ : ByteArray) [.string (⟨#[38, 38]⟩ : ByteArray)] from rfl) (Reps.one (show Kd.M Kd.string _ _ _ (⟨#[124, 124]⟩ : ByteArray) [.string (⟨#[124, 124]⟩ : ByteArray)] from rfl) (Reps.one (show Kd.M Kd.string _ _ _ (⟨#[123]⟩ : ByteArray) [.string (⟨#[123]⟩ : ByteArray)] from rfl) (Reps.one (show Kd.M Kd.string _ _ _ (⟨#[125]⟩ : ByteArray) [.string (⟨#[125]⟩ : ByteArray)] from rfl) (Reps.one (show Kd.M Kd.string _ _ _ (⟨#[40]⟩ : ByteArray) [.string (⟨#[40]⟩ : ByteArray)] from rfl) (Reps.one (show Kd.M Kd.string _ _ _ (⟨#[41]⟩ : ByteArray) [.string (⟨#[41]⟩ : ByteArray)] from rfl) (Reps.one (show Kd.M Kd.string _ _ _ (⟨#[91]⟩ : ByteArray) [.string (⟨#[91]⟩ : ByteArray)] from rfl) (Reps.one (show Kd.M Kd.string _ _ _ (⟨#[93]⟩ : ByteArray) [.string (⟨#[93]⟩ : ByteArray)] from rfl) (Reps.one (show Kd.M Kd.string _ _ _ (⟨#[59]⟩ : ByteArray) [.string (⟨#[59]⟩ : ByteArray)] from rfl) (Reps.one (show Kd.M Kd.string _ _ _ (⟨#[58]⟩ : ByteArray) [.string (⟨#[58]⟩ : ByteArray)] from rfl) (Reps.one (show Kd.M Kd.string _ _ _ (⟨#[44]⟩ : ByteArray) [.string (⟨#[44]⟩ : ByteArray)] from rfl) (Reps.one (show Kd.M Kd.string _ _ _ (⟨#[46]⟩ : ByteArray) [.string (⟨#[46]⟩ : ByteArray)] from rfl) (Reps.one (show Kd.M Kd.string _ _ _ (⟨#[61]⟩ : ByteArray) [.string (⟨#[61]⟩ : ByteArray)] from rfl) (Reps.one (show Kd.M Kd.string _ _ _ (⟨#[60]⟩ : ByteArray) [.string (⟨#[60]⟩ : ByteArray)] from rfl) (Reps.one (show Kd.M Kd.string _ _ _ (⟨#[62]⟩ : ByteArray) [.string (⟨#[62]⟩ : ByteArray)] from rfl) (Reps.one (show Kd.M Kd.string _ _ _ (⟨#[43]⟩ : ByteArray) [.string (⟨#[43]⟩ : ByteArray)] from rfl) (Reps.one (show Kd.M Kd.string _ _ _ (⟨#[45]⟩ : ByteArray) [.string (⟨#[45]⟩ : ByteArray)] from rfl) (Reps.one (show Kd.M Kd.string _ _ _ (⟨#[42]⟩ : ByteArray) [.string (⟨#[42]⟩ : ByteArray)] from rfl) (Reps.one (show Kd.M Kd.string _ _ _ (⟨#[47]⟩ : ByteArray) [.string (⟨#[47]⟩ : ByteArray)] from rfl) (Reps.one (show Kd.M Kd.string _ _ _ (⟨#[37]⟩ : ByteArray) [.string (⟨#[37]⟩ : ByteArray)] from rfl) (Reps.one (show Kd.M Kd.string _ _ _ (⟨#[33]⟩ : ByteArray) [.string (⟨#[33]⟩ : ByteArray)] from rfl) (Reps.none _ _))))))))))))))))))))))))))))); intro v236 w1 ho2 hb hg_ hnew_; clear hg_ hnew_; (first | rw [← Ny235.out] at ho2 | (simp only [Int.reduceToNat] at ho2; rw [← Ny235.out] at ho2)); have n0_ := Aside0.mk (Kd.R_lower ho2 (below_size (by repeat (first | (with_reducible first | exact HB.out | apply below_alloc | apply pw_below_drewN | apply below_drew1) | exact HB.out)))); have n1_ := Aside0.mk (below_step (by repeat (first | (with_reducible first | exact HB.out | apply below_alloc | apply pw_below_drewN | apply below_drew1) | exact HB.out)) hb); clear HB; have HO237 := n0_; have HB := n1_; clear n0_ n1_; clear hb ho2))
  go_ret
  exact ⟨_, by first | rfl | (simp [errW_none, errW_some] <;> rfl) | (simp [*, errW_none, errW_some] <;> rfl), by (with_reducible repeat (first | apply Kd.R_alloc | apply Kd.R_drewN | apply Kd.R_drew)); exact HO237.out, by repeat (first | (with_reducible first | exact HB.out | apply below_alloc | apply pw_below_drewN | apply below_drew1) | exact HB.out)⟩
end Go.Proofs.YtdjcechogbcdnaaDoor.XL
namespace Go.Proofs.YtdjcechogbcdnaaDoor.XL
open Go.RowKit Go.Proofs.YtdjcechogbcdnaaDoorW.PrintWords Go.Proofs.YtdjcechogbcdnaaDoorW.PrintLast Go.Proofs.YtdjcechogbcdnaaDoorW.PrintMore
attribute [local go_sem] max2_int min2_int max_two min_two max_three min_three max_four min_four   -- for this text's walks alone
set_option linter.unusedVariables false
set_option linter.unusedSimpArgs false
mutual
def switchyardref07_token.j0 : Nat → ByteArray → Int → Int → Bool → Option (Int × ByteArray × Int × Int × Int)
  | 0, _, _, _, _ => none
  | k + 1, x0, x1, x6, x38 => if x38 = true then (if x6 = 39 then (switchyardref07_token.j1 k x0 x1 (wrap64 (x1 + 1)) 4) else (switchyardref07_token.j1 k x0 x1 x1 1)) else (if x6 ≥ 48 then (switchyardref07_token.j3 k x0 x1 x6 (decide (x6 ≤ 57))) else (switchyardref07_token.j3 k x0 x1 x6 false))
def switchyardref07_token.j1 : Nat → ByteArray → Int → Int → Int → Option (Int × ByteArray × Int × Int × Int)
  | 0, _, _, _, _ => none
  | k + 1, x0, x1, x7, x8 => switchyardref07_token.l0 k x0 x1 x7 x8 x7
def switchyardref07_token.l0 : Nat → ByteArray → Int → Int → Int → Int → Option (Int × ByteArray × Int × Int × Int)
  | 0, _, _, _, _, _ => none
  | k + 1, x0, x1, x7, x8, x9 => if x9 < (x0.size : Int) then (if 0 ≤ x9 then ((switchyardref07_word.f (bt x0 x9)).bind fun t240 => (if t240 = true then (switchyardref07_token.l0 k x0 x1 x7 x8 (wrap64 (x9 + 1))) else (if 0 ≤ x7 then (if x7 ≤ x9 then (if x9 ≤ (x0.size : Int) then ((switchyardref06_Name.f k (x0.extract (x7 : Int).toNat (x9 : Int).toNat)).bind fun t241 => (if t241 = true then (some (x8, x0.extract (x7 : Int).toNat (x9 : Int).toNat, 0, x1, wrap64 (x9 - x1))) else (some (0, (⟨#[]⟩ : ByteArray), 0, 0, 0)))) else (none)) else (none)) else (none)))) else (none)) else (if 0 ≤ x7 then (if x7 ≤ x9 then (if x9 ≤ (x0.size : Int) then ((switchyardref06_Name.f k (x0.extract (x7 : Int).toNat (x9 : Int).toNat)).bind fun t242 => (if t242 = true then (some (x8, x0.extract (x7 : Int).toNat (x9 : Int).toNat, 0, x1, wrap64 (x9 - x1))) else (some (0, (⟨#[]⟩ : ByteArray), 0, 0, 0)))) else (none)) else (none)) else (none))
def switchyardref07_token.j3 : Nat → ByteArray → Int → Int → Bool → Option (Int × ByteArray × Int × Int × Int)
  | 0, _, _, _, _ => none
  | k + 1, x0, x1, x6, x79 => if x79 = true then (switchyardref07_token.l1 k x0 x1 x1) else (if x6 = 34 then ((switchyardref07_quoted.f k x0 x1).bind fun t249 => (if t249 = 0 then (some (0, (⟨#[]⟩ : ByteArray), 0, 0, 0)) else (if 0 ≤ x1 then (if x1 ≤ (wrap64 (x1 + t249)) then (if (wrap64 (x1 + t249)) ≤ (x0.size : Int) then ((switchyardref07_said.f k (x0.extract (x1 : Int).toNat ((wrap64 (x1 + t249)) : Int).toNat)).bind fun bt250 => (if bt250.2 = true then (some (3, bt250.1, 0, x1, t249)) else (some (0, (⟨#[]⟩ : ByteArray), 0, 0, 0)))) else (none)) else (none)) else (none)))) else ((switchyardref07_signs.f).bind fun t252 => (switchyardref07_token.l2 k x0 x1 t252 (t252.length : Int) 0)))
def switchyardref07_token.l1 : Nat → ByteArray → Int → Int → Option (Int × ByteArray × Int × Int × Int)
  | 0, _, _, _ => none
  | k + 1, x0, x1, x10 => if x10 < (x0.size : Int) then (if 0 ≤ x10 then (if (bt x0 x10) ≥ 48 then (if (bt x0 x10) ≤ 57 then (switchyardref07_token.l1 k x0 x1 (wrap64 (x10 + 1))) else (if 0 ≤ x1 then (if x1 ≤ x10 then (if x10 ≤ (x0.size : Int) then ((switchyardref07_digits.f k (x0.extract (x1 : Int).toNat (x10 : Int).toNat)).bind fun bt243 => (if bt243.2 = true then (some (2, x0.extract (x1 : Int).toNat (x10 : Int).toNat, bt243.1, x1, wrap64 (x10 - x1))) else (some (0, (⟨#[]⟩ : ByteArray), 0, 0, 0)))) else (none)) else (none)) else (none))) else (if 0 ≤ x1 then (if x1 ≤ x10 then (if x10 ≤ (x0.size : Int) then ((switchyardref07_digits.f k (x0.extract (x1 : Int).toNat (x10 : Int).toNat)).bind fun bt245 => (if bt245.2 = true then (some (2, x0.extract (x1 : Int).toNat (x10 : Int).toNat, bt245.1, x1, wrap64 (x10 - x1))) else (some (0, (⟨#[]⟩ : ByteArray), 0, 0, 0)))) else (none)) else (none)) else (none))) else (none)) else (if 0 ≤ x1 then (if x1 ≤ x10 then (if x10 ≤ (x0.size : Int) then ((switchyardref07_digits.f k (x0.extract (x1 : Int).toNat (x10 : Int).toNat)).bind fun bt247 => (if bt247.2 = true then (some (2, x0.extract (x1 : Int).toNat (x10 : Int).toNat, bt247.1, x1, wrap64 (x10 - x1))) else (some (0, (⟨#[]⟩ : ByteArray), 0, 0, 0)))) else (none)) else (none)) else (none))
def switchyardref07_token.l2 : Nat → ByteArray → Int → List ByteArray → Int → Int → Option (Int × ByteArray × Int × Int × Int)
  | 0, _, _, _, _, _ => none
  | k + 1, x0, x1, x145, x146, x147 => if x147 < x146 then (if 0 ≤ x147 then (if x147 < (x145.length : Int) then (if (wrap64 (x1 + ((rdOf ByteArray.empty x145 x147).size : Int))) ≤ (x0.size : Int) then (if 0 ≤ x1 then (if x1 ≤ (wrap64 (x1 + ((rdOf ByteArray.empty x145 x147).size : Int))) then (if (x0.extract (x1 : Int).toNat ((wrap64 (x1 + ((rdOf ByteArray.empty x145 x147).size : Int))) : Int).toNat).toList = (rdOf ByteArray.empty x145 x147).toList then (some (5, rdOf ByteArray.empty x145 x147, 0, x1, ((rdOf ByteArray.empty x145 x147).size : Int))) else (switchyardref07_token.l2 k x0 x1 x145 x146 (wrap64 (x147 + 1)))) else (none)) else (none)) else (switchyardref07_token.l2 k x0 x1 x145 x146 (wrap64 (x147 + 1)))) else (none)) else (none)) else (some (0, (⟨#[]⟩ : ByteArray), 0, 0, 0))
end
def switchyardref07_token.f (k : Nat) (a0 : ByteArray) (a1 : Int) : Option (Int × ByteArray × Int × Int × Int) := if 0 ≤ a1 then (if a1 < (a0.size : Int) then (if (bt a0 a1) = 39 then (switchyardref07_token.j0 k a0 a1 (bt a0 a1) true) else ((switchyardref07_word.f (bt a0 a1)).bind fun t239 => (if t239 = true then (if (bt a0 a1) < 48 then (switchyardref07_token.j0 k a0 a1 (bt a0 a1) ((bt a0 a1) != 95)) else (if (bt a0 a1) > 57 then (switchyardref07_token.j0 k a0 a1 (bt a0 a1) ((bt a0 a1) != 95)) else (switchyardref07_token.j0 k a0 a1 (bt a0 a1) false))) else (switchyardref07_token.j0 k a0 a1 (bt a0 a1) false)))) else (none)) else (none)
set_option maxHeartbeats 4000000 in
set_option maxRecDepth 100000 in
theorem switchyardref07_token.calls (k : Nat) (a0 : ByteArray) (a1 : Int) (r1 : Int) (r2 : ByteArray) (r3 : Int) (r4 : Int) (r5 : Int) (w : World) (h : switchyardref07_token.f k a0 a1 = some (r1, r2, r3, r4, r5)) :
    Calls Tryd.prog 15 #[.string a0, .int .i64 a1] w fun e w' => e = .returned (.tuple #[.agg #[.int .i64 r1, .string r2, .int .i64 r3, .int .i64 r4], .int .i64 r5]) ∧ Below w.heap.size w w' := by
  have hu32 := Tryd.underlying32
  have HB := Aside0.mk (Below.refl w.heap.size w)
  have H : (if 0 ≤ a1 then (if a1 < (a0.size : Int) then (if (bt a0 a1) = 39 then (switchyardref07_token.j0 k a0 a1 (bt a0 a1) true) else ((switchyardref07_word.f (bt a0 a1)).bind fun t239 => (if t239 = true then (if (bt a0 a1) < 48 then (switchyardref07_token.j0 k a0 a1 (bt a0 a1) ((bt a0 a1) != 95)) else (if (bt a0 a1) > 57 then (switchyardref07_token.j0 k a0 a1 (bt a0 a1) ((bt a0 a1) != 95)) else (switchyardref07_token.j0 k a0 a1 (bt a0 a1) false))) else (switchyardref07_token.j0 k a0 a1 (bt a0 a1) false)))) else (none)) else (none)) = some (r1, r2, r3, r4, r5) := h
  clear h
  by_cases c3 : 0 ≤ a1
  · rw [if_pos c3] at H
    have c3b0 : decide (0 ≤ a1) = true := decide_eq_true c3
    clear c3
    by_cases c4 : a1 < (a0.size : Int)
    · rw [if_pos c4] at H
      have c4b0 : decide (a1 < (a0.size : Int)) = true := decide_eq_true c4
      clear c4
      have HC6 := Aside0.mk H
      clear H
      go_enter Tryd.func15, Tryd.ntmps15
      go_upto_region 2 with (first | ((with_reducible refine gate_dst (N := 4) rfl ?_); (try (refine gate_guard (by rfl) ?_; dsimp only)); refine box_event ?hg (N := 4) ?hd (cs := #[.int .i64 0, .string (⟨#[]⟩ : ByteArray), .int .i64 0, .int .i64 0]) (t := 32) ?hr ?_; (case hd => rfl); (case hg => rfl); (case hr => first | (go_simp; done) | (go_simp; rfl)); intro gb238 hg w7 hbox hb; have n0_ := Aside0.mk (below_step (by repeat (first | (with_reducible first | exact HB.out | apply below_alloc | apply pw_below_drewN | apply below_drew1) | exact HB.out)) hb); have n1_ := Aside0.mk (hbox); have n2_ := Aside0.mk ((by rw [hg]; exact (below_size (by repeat (first | (with_reducible first | exact HB.out | apply below_alloc | apply pw_below_drewN | apply below_drew1) | exact HB.out))) : w.heap.size ≤ gb238)); have n3_ := Aside0.mk ((by rw [hg]; exact (below_size (by repeat (first | (with_reducible first | exact HB.out | apply below_alloc | apply pw_below_drewN | apply below_drew1) | exact HB.out))) : w.heap.size ≤ gb238)); clear HB; have HB := n0_; have BK238 := n1_; have GW238 := n2_; have GE238 := n3_; clear n0_ n1_ n2_ n3_; clear hb hbox hg; have p5 : 0 ≤ (a1 : Int) := of_decide_eq_true (by first | (with_reducible assumption) | assumption); have q5 : a1 < (a0.size : Int) := of_decide_eq_true (by first | (with_reducible assumption) | assumption); have hx5 := bt_at a0 a1; replace p5 := eq_true p5; replace q5 := eq_true q5))
      (try simp only [Act.put, List.setIfInBounds_toArray, List.set_cons_zero, List.set_cons_succ])
      go_cut [38] (fun v38 wc => ∃ (kq : Nat) (x38_5 : Bool), v38 = .bool x38_5 ∧ Aside0 (switchyardref07_token.j0 kq a0 a1 (bt a0 a1) x38_5 = some (r1, r2, r3, r4, r5)) ∧ Aside0 (kq ≤ k) ∧ Aside0 (wc.heap[gb238]? = some (.cells #[.int .i64 0, .string (⟨#[]⟩ : ByteArray), .int .i64 0, .int .i64 0] 32 (0, 0))) ∧ Aside0 (Below w.heap.size w wc))
      case first =>
        have H := HC6.out
        clear HC6
        by_cases c8 : (bt a0 a1) = 39
        · rw [if_pos c8] at H
          have c8b0 : ((bt a0 a1) == 39) = true := beq_iff_eq.mpr c8
          have c8b1 : ((bt a0 a1) != 39) = false := bne_eq_false_iff_eq.mpr c8
          clear c8
          (first | rw [c8b0] | (simp only [i64_w, i32_w]; rw [c8b0]) | skip)
          have H' := Aside0.mk H
          clear H
          go_wp2
          go_meet
          case rel => exact ⟨_, (true), (by first | rfl | (simp; done) | (simp [*]; done)), H', ⟨by first | omega | exact Nat.le_refl _⟩, ⟨by (with_reducible repeat (first | refine blk_drewN ?_ _ | refine blk_drew ?_ | refine blk_alloc ?_ _)); exact BK238.out⟩, ⟨by repeat (first | (with_reducible first | exact HB.out | apply below_alloc | apply pw_below_drewN | apply below_drew1 | refine below_set ?_ GE238.out) | exact HB.out)⟩⟩
        · rw [if_neg c8] at H
          have c8b0 : ((bt a0 a1) == 39) = false := beq_eq_false_iff_ne.mpr c8
          have c8b1 : ((bt a0 a1) != 39) = true := bne_iff_ne.mpr c8
          (first | rw [c8b0] | (simp only [i64_w, i32_w]; rw [c8b0]) | skip)
          replace H := Option.bind_eq_some_iff.mp H
          obtain ⟨t239, A90, H⟩ := H
          replace H : (if t239 = true then (if (bt a0 a1) < 48 then (switchyardref07_token.j0 k a0 a1 (bt a0 a1) ((bt a0 a1) != 95)) else (if (bt a0 a1) > 57 then (switchyardref07_token.j0 k a0 a1 (bt a0 a1) ((bt a0 a1) != 95)) else (switchyardref07_token.j0 k a0 a1 (bt a0 a1) false))) else (switchyardref07_token.j0 k a0 a1 (bt a0 a1) false)) = some (r1, r2, r3, r4, r5) := H
          have A9 := Aside0.mk A90
          clear A90
          by_cases c10 : t239 = true
          · subst c10
            have H1 : (if (bt a0 a1) < 48 then (switchyardref07_token.j0 k a0 a1 (bt a0 a1) ((bt a0 a1) != 95)) else (if (bt a0 a1) > 57 then (switchyardref07_token.j0 k a0 a1 (bt a0 a1) ((bt a0 a1) != 95)) else (switchyardref07_token.j0 k a0 a1 (bt a0 a1) false))) = some (r1, r2, r3, r4, r5) := by rw [if_pos rfl] at H; exact H
            clear H
            have H := H1
            clear H1
            by_cases c11 : (bt a0 a1) < 48
            · rw [if_pos c11] at H
              have c11b0 : decide ((bt a0 a1) < 48) = true := decide_eq_true c11
              clear c11
              have H' := Aside0.mk H
              clear H
              go_wp2_with (first | (go_at_call 26; refine calls_of_args (args' := #[.int .u8 (bt a0 a1)]) (by first | rfl) ?_; (with_reducible refine (switchyardref07_word.calls (bt a0 a1) true _ A9.out).mono ?_); rintro e w' ⟨rfl, ⟨nd, rfl⟩⟩))
              go_meet
              case rel => exact ⟨_, (((bt a0 a1) != 95)), (by first | rfl | (simp; done) | (simp [*]; done)), H', ⟨by first | omega | exact Nat.le_refl _⟩, ⟨by (with_reducible repeat (first | refine blk_drewN ?_ _ | refine blk_drew ?_ | refine blk_alloc ?_ _)); exact BK238.out⟩, ⟨by repeat (first | (with_reducible first | exact HB.out | apply below_alloc | apply pw_below_drewN | apply below_drew1 | refine below_set ?_ GE238.out) | exact HB.out)⟩⟩
            · rw [if_neg c11] at H
              have c11b0 : decide ((bt a0 a1) < 48) = false := decide_eq_false c11
              clear c11
              by_cases c12 : (bt a0 a1) > 57
              · rw [if_pos c12] at H
                have c12b0 : decide (57 < (bt a0 a1)) = true := decide_eq_true c12
                clear c12
                have H' := Aside0.mk H
                clear H
                go_wp2_with (first | (go_at_call 26; refine calls_of_args (args' := #[.int .u8 (bt a0 a1)]) (by first | rfl) ?_; (with_reducible refine (switchyardref07_word.calls (bt a0 a1) true _ A9.out).mono ?_); rintro e w' ⟨rfl, ⟨nd, rfl⟩⟩))
                go_meet
                case rel => exact ⟨_, (((bt a0 a1) != 95)), (by first | rfl | (simp; done) | (simp [*]; done)), H', ⟨by first | omega | exact Nat.le_refl _⟩, ⟨by (with_reducible repeat (first | refine blk_drewN ?_ _ | refine blk_drew ?_ | refine blk_alloc ?_ _)); exact BK238.out⟩, ⟨by repeat (first | (with_reducible first | exact HB.out | apply below_alloc | apply pw_below_drewN | apply below_drew1 | refine below_set ?_ GE238.out) | exact HB.out)⟩⟩
              · rw [if_neg c12] at H
                have c12b0 : decide (57 < (bt a0 a1)) = false := decide_eq_false c12
                clear c12
                have H' := Aside0.mk H
                clear H
                go_wp2_with (first | (go_at_call 26; refine calls_of_args (args' := #[.int .u8 (bt a0 a1)]) (by first | rfl) ?_; (with_reducible refine (switchyardref07_word.calls (bt a0 a1) true _ A9.out).mono ?_); rintro e w' ⟨rfl, ⟨nd, rfl⟩⟩))
                go_meet
                case rel => exact ⟨_, (false), (by first | rfl | (simp; done) | (simp [*]; done)), H', ⟨by first | omega | exact Nat.le_refl _⟩, ⟨by (with_reducible repeat (first | refine blk_drewN ?_ _ | refine blk_drew ?_ | refine blk_alloc ?_ _)); exact BK238.out⟩, ⟨by repeat (first | (with_reducible first | exact HB.out | apply below_alloc | apply pw_below_drewN | apply below_drew1 | refine below_set ?_ GE238.out) | exact HB.out)⟩⟩
          · replace c10 := Bool.eq_false_iff.mpr c10
            subst c10
            have H1 : (switchyardref07_token.j0 k a0 a1 (bt a0 a1) false) = some (r1, r2, r3, r4, r5) := by rw [if_neg (show ¬ (false = true) by decide)] at H; exact H
            clear H
            have H := H1
            clear H1
            have H' := Aside0.mk H
            clear H
            go_wp2_with (first | (go_at_call 26; refine calls_of_args (args' := #[.int .u8 (bt a0 a1)]) (by first | rfl) ?_; (with_reducible refine (switchyardref07_word.calls (bt a0 a1) false _ A9.out).mono ?_); rintro e w' ⟨rfl, ⟨nd, rfl⟩⟩))
            go_meet
            case rel => exact ⟨_, (false), (by first | rfl | (simp; done) | (simp [*]; done)), H', ⟨by first | omega | exact Nat.le_refl _⟩, ⟨by (with_reducible repeat (first | refine blk_drewN ?_ _ | refine blk_drew ?_ | refine blk_alloc ?_ _)); exact BK238.out⟩, ⟨by repeat (first | (with_reducible first | exact HB.out | apply below_alloc | apply pw_below_drewN | apply below_drew1 | refine below_set ?_ GE238.out) | exact HB.out)⟩⟩
      case rest =>
        clear HC6
        try clear c1
        try clear p2
        try clear c3
        try clear c3b0
        try clear c4
        try clear c4b0
        try clear p5
        try clear q5
        try clear hx5
        try clear c8
        try clear c8b0
        try clear c8b1
        try clear c10
        try clear c11
        try clear c11b0
        try clear c12
        try clear c12b0
        try clear p5
        try clear q5
        obtain ⟨kq, x38_5, rfl, HA, HJ5, BK238, HB⟩ := hcut
        cases kq with
        | zero => exact absurd HA.out (by simp [switchyardref07_token.j0])
        | succ kj5 =>
          have H := HA.out
          clear HA
          simp only [switchyardref07_token.j0] at H
          by_cases c13 : x38_5 = true
          · subst c13
            have H1 : (if (bt a0 a1) = 39 then (switchyardref07_token.j1 kj5 a0 a1 (wrap64 (a1 + 1)) 4) else (switchyardref07_token.j1 kj5 a0 a1 a1 1)) = some (r1, r2, r3, r4, r5) := by rw [if_pos rfl] at H; exact H
            clear H
            have H := H1
            clear H1
            have HC14 := Aside0.mk H
            clear H
            go_upto_if 41 with (fail)
            go_cut [7, 8] (fun v7 v8 wc => ∃ (kq : Nat) (x7_13 : Int) (x8_13 : Int), v7 = .int .i64 x7_13 ∧ v8 = .int .i64 x8_13 ∧ Aside0 (switchyardref07_token.j1 kq a0 a1 x7_13 x8_13 = some (r1, r2, r3, r4, r5)) ∧ Aside0 (kq ≤ kj5) ∧ Aside0 (wc.heap[gb238]? = some (.cells #[.int .i64 0, .string (⟨#[]⟩ : ByteArray), .int .i64 0, .int .i64 0] 32 (0, 0))) ∧ Aside0 (Below w.heap.size w wc))
            case first =>
              have H := HC14.out
              clear HC14
              by_cases c15 : (bt a0 a1) = 39
              · rw [if_pos c15] at H
                have c15b0 : ((bt a0 a1) == 39) = true := beq_iff_eq.mpr c15
                have c15b1 : ((bt a0 a1) != 39) = false := bne_eq_false_iff_eq.mpr c15
                clear c15
                (first | rw [c15b0] | (simp only [i64_w, i32_w]; rw [c15b0]) | skip)
                have H' := Aside0.mk H
                clear H
                go_wp2
                go_meet
                case rel => exact ⟨_, (wrap64 (a1 + 1)), (4), (by first | rfl | (simp; done) | (simp [*]; done)), (by first | rfl | (simp; done) | (simp [*]; done)), H', ⟨by have := HJ5.out; first | omega | exact Nat.le_refl _⟩, ⟨by (with_reducible repeat (first | refine blk_drewN ?_ _ | refine blk_drew ?_ | refine blk_alloc ?_ _)); exact BK238.out⟩, ⟨by repeat (first | (with_reducible first | exact HB.out | apply below_alloc | apply pw_below_drewN | apply below_drew1 | refine below_set ?_ GE238.out) | exact HB.out)⟩⟩
              · rw [if_neg c15] at H
                have c15b0 : ((bt a0 a1) == 39) = false := beq_eq_false_iff_ne.mpr c15
                have c15b1 : ((bt a0 a1) != 39) = true := bne_iff_ne.mpr c15
                (first | rw [c15b0] | (simp only [i64_w, i32_w]; rw [c15b0]) | skip)
                have H' := Aside0.mk H
                clear H
                go_wp2
                go_meet
                case rel => exact ⟨_, (a1), (1), (by first | rfl | (simp; done) | (simp [*]; done)), (by first | rfl | (simp; done) | (simp [*]; done)), H', ⟨by have := HJ5.out; first | omega | exact Nat.le_refl _⟩, ⟨by (with_reducible repeat (first | refine blk_drewN ?_ _ | refine blk_drew ?_ | refine blk_alloc ?_ _)); exact BK238.out⟩, ⟨by repeat (first | (with_reducible first | exact HB.out | apply below_alloc | apply pw_below_drewN | apply below_drew1 | refine below_set ?_ GE238.out) | exact HB.out)⟩⟩
            case rest =>
              clear HC14
              try clear c1
              try clear p2
              try clear c3
              try clear c3b0
              try clear c4
              try clear c4b0
              try clear p5
              try clear q5
              try clear hx5
              try clear p6
              try clear c8
              try clear c8b0
              try clear c8b1
              try clear c10
              try clear c11
              try clear c11b0
              try clear c12
              try clear c12b0
              try clear c13
              try clear c15
              try clear c15b0
              try clear c15b1
              try clear p2
              try clear p5
              try clear q5
              obtain ⟨kq, x7_13, x8_13, rfl, rfl, HA, HJ13, BK238, HB⟩ := hcut
              cases kq with
              | zero => exact absurd HA.out (by simp [switchyardref07_token.j1])
              | succ kj13 =>
                have H := HA.out
                clear HA
                simp only [switchyardref07_token.j1] at H
                have H' := Aside0.mk H
                clear H
                go_wp2
                go_loopg [9] kj13 (fun kq v9 w' => ∃ (x9_3 : Int), v9 = .int .i64 x9_3 ∧ Aside0 (switchyardref07_token.l0 kq a0 a1 x7_13 x8_13 x9_3 = some (r1, r2, r3, r4, r5)) ∧ Aside0 (kq ≤ kj13) ∧ Aside0 (w'.heap[gb238]? = some (.cells #[.int .i64 0, .string (⟨#[]⟩ : ByteArray), .int .i64 0, .int .i64 0] 32 (0, 0))) ∧ Aside0 (Below w.heap.size w w'))
                case atStart => exact ⟨(x7_13), (by first | rfl | (simp; done) | (simp [*]; done)), H', ⟨Nat.le_refl _⟩, ⟨by (with_reducible repeat (first | refine blk_drewN ?_ _ | refine blk_drew ?_ | refine blk_alloc ?_ _)); exact BK238.out⟩, ⟨by repeat (first | (with_reducible first | exact HB.out | apply below_alloc | apply pw_below_drewN | apply below_drew1 | refine below_set ?_ GE238.out) | exact HB.out)⟩⟩
                case round =>
                  clear H'
                  try clear c1
                  try clear p2
                  try clear c3
                  try clear c3b0
                  try clear c4
                  try clear c4b0
                  try clear p5
                  try clear q5
                  try clear hx5
                  try clear p6
                  try clear c8
                  try clear c8b0
                  try clear c8b1
                  try clear c10
                  try clear c11
                  try clear c11b0
                  try clear c12
                  try clear c12b0
                  try clear c13
                  try clear c15
                  try clear c15b0
                  try clear c15b1
                  try clear p2
                  try clear p5
                  try clear p6
                  try clear q5
                  obtain ⟨x9_3, rfl, HA, HK3, BK238, HB⟩ := hrel
                  cases gk with
                  | zero => exact absurd HA.out (by simp [switchyardref07_token.l0])
                  | succ k3 =>
                    have H := HA.out
                    clear HA
                    simp only [switchyardref07_token.l0] at H
                    by_cases c16 : x9_3 < (a0.size : Int)
                    · rw [if_pos c16] at H
                      have c16b0 : decide (x9_3 < (a0.size : Int)) = true := decide_eq_true c16
                      clear c16
                      by_cases c17 : 0 ≤ x9_3
                      · rw [if_pos c17] at H
                        have c17b0 : decide (0 ≤ x9_3) = true := decide_eq_true c17
                        clear c17
                        replace H := Option.bind_eq_some_iff.mp H
                        obtain ⟨t240, A190, H⟩ := H
                        replace H : (if t240 = true then (switchyardref07_token.l0 k3 a0 a1 x7_13 x8_13 (wrap64 (x9_3 + 1))) else (if 0 ≤ x7_13 then (if x7_13 ≤ x9_3 then (if x9_3 ≤ (a0.size : Int) then ((switchyardref06_Name.f k3 (a0.extract (x7_13 : Int).toNat (x9_3 : Int).toNat)).bind fun t241 => (if t241 = true then (some (x8_13, a0.extract (x7_13 : Int).toNat (x9_3 : Int).toNat, 0, a1, wrap64 (x9_3 - a1))) else (some (0, (⟨#[]⟩ : ByteArray), 0, 0, 0)))) else (none)) else (none)) else (none))) = some (r1, r2, r3, r4, r5) := H
                        have A19 := Aside0.mk A190
                        clear A190
                        by_cases c20 : t240 = true
                        · subst c20
                          have H1 : (switchyardref07_token.l0 k3 a0 a1 x7_13 x8_13 (wrap64 (x9_3 + 1))) = some (r1, r2, r3, r4, r5) := by rw [if_pos rfl] at H; exact H
                          clear H
                          have H := H1
                          clear H1
                          have H' := Aside0.mk H
                          clear H
                          have p18 : 0 ≤ (x9_3 : Int) := of_decide_eq_true (by first | (with_reducible assumption) | assumption)
                          have q18 : x9_3 < (a0.size : Int) := of_decide_eq_true (by first | (with_reducible assumption) | assumption)
                          have hx18 := bt_at a0 x9_3
                          replace p18 := eq_true p18
                          replace q18 := eq_true q18
                          go_wp2_with (first | (go_at_call 26; refine calls_of_args (args' := #[.int .u8 (bt a0 x9_3)]) (by first | rfl) ?_; (with_reducible refine (switchyardref07_word.calls (bt a0 x9_3) true _ A19.out).mono ?_); rintro e w' ⟨rfl, ⟨nd, rfl⟩⟩))
                          go_roundg k3
                          case measure => have := HJ5.out; have := HJ13.out; have := HK3.out; omega
                          case rel => exact ⟨(wrap64 (x9_3 + 1)), (by first | rfl | (simp; done) | (simp [*]; done)), H', ⟨by have := HJ5.out; have := HJ13.out; have := HK3.out; omega⟩, ⟨by (with_reducible repeat (first | refine blk_drewN ?_ _ | refine blk_drew ?_ | refine blk_alloc ?_ _)); exact BK238.out⟩, ⟨by repeat (first | (with_reducible first | exact HB.out | apply below_alloc | apply pw_below_drewN | apply below_drew1 | refine below_set ?_ GE238.out) | exact HB.out)⟩⟩
                        · replace c20 := Bool.eq_false_iff.mpr c20
                          subst c20
                          have H1 : (if 0 ≤ x7_13 then (if x7_13 ≤ x9_3 then (if x9_3 ≤ (a0.size : Int) then ((switchyardref06_Name.f k3 (a0.extract (x7_13 : Int).toNat (x9_3 : Int).toNat)).bind fun t241 => (if t241 = true then (some (x8_13, a0.extract (x7_13 : Int).toNat (x9_3 : Int).toNat, 0, a1, wrap64 (x9_3 - a1))) else (some (0, (⟨#[]⟩ : ByteArray), 0, 0, 0)))) else (none)) else (none)) else (none)) = some (r1, r2, r3, r4, r5) := by rw [if_neg (show ¬ (false = true) by decide)] at H; exact H
                          clear H
                          have H := H1
                          clear H1
                          by_cases c21 : 0 ≤ x7_13
                          · rw [if_pos c21] at H
                            have c21b0 := eq_true c21
                            have c21b1 : decide (0 ≤ x7_13) = true := decide_eq_true c21
                            clear c21
                            by_cases c22 : x7_13 ≤ x9_3
                            · rw [if_pos c22] at H
                              have c22b0 := eq_true c22
                              have c22b1 : decide (x7_13 ≤ x9_3) = true := decide_eq_true c22
                              clear c22
                              by_cases c23 : x9_3 ≤ (a0.size : Int)
                              · rw [if_pos c23] at H
                                have c23b0 := eq_true c23
                                have c23b1 : decide (x9_3 ≤ (a0.size : Int)) = true := decide_eq_true c23
                                clear c23
                                replace H := Option.bind_eq_some_iff.mp H
                                obtain ⟨t241, A240, H⟩ := H
                                replace H : (if t241 = true then (some (x8_13, a0.extract (x7_13 : Int).toNat (x9_3 : Int).toNat, 0, a1, wrap64 (x9_3 - a1))) else (some (0, (⟨#[]⟩ : ByteArray), 0, 0, 0))) = some (r1, r2, r3, r4, r5) := H
                                have A24 := Aside0.mk A240
                                clear A240
                                by_cases c25 : t241 = true
                                · subst c25
                                  have H1 : (some (x8_13, a0.extract (x7_13 : Int).toNat (x9_3 : Int).toNat, 0, a1, wrap64 (x9_3 - a1))) = some (r1, r2, r3, r4, r5) := by rw [if_pos rfl] at H; exact H
                                  clear H
                                  have H := H1
                                  clear H1
                                  have c26b0 := eq_true (of_decide_eq_true (by first | (with_reducible assumption) | assumption) : 0 ≤ x7_13)
                                  have c27b0 := eq_true (of_decide_eq_true (by first | (with_reducible assumption) | assumption) : x7_13 ≤ x9_3)
                                  have c28b0 := eq_true (of_decide_eq_true (by first | (with_reducible assumption) | assumption) : x9_3 ≤ (a0.size : Int))
                                  simp only [Option.some.injEq, Prod.mk.injEq] at H
                                  obtain ⟨rfl, rfl, rfl, rfl, rfl⟩ := H
                                  have p18 : 0 ≤ (x9_3 : Int) := of_decide_eq_true (by first | (with_reducible assumption) | assumption)
                                  have q18 : x9_3 < (a0.size : Int) := of_decide_eq_true (by first | (with_reducible assumption) | assumption)
                                  have hx18 := bt_at a0 x9_3
                                  replace p18 := eq_true p18
                                  replace q18 := eq_true q18
                                  go_wp2_with (first | (go_at_call 26; refine calls_of_args (args' := #[.int .u8 (bt a0 x9_3)]) (by first | rfl) ?_; (with_reducible refine (switchyardref07_word.calls (bt a0 x9_3) false _ A19.out).mono ?_); rintro e w' ⟨rfl, ⟨nd, rfl⟩⟩; (try (rw [drewN_self wr]; generalize hq_ : World.drewN wr _ = wr; have n0_ : Aside0 (wr.heap[gb238]? = some (.cells #[.int .i64 0, .string (⟨#[]⟩ : ByteArray), .int .i64 0, .int .i64 0] 32 (0, 0))) := ⟨by rw [← hq_]; exact (by (with_reducible repeat (first | refine blk_drewN ?_ _ | refine blk_drew ?_ | refine blk_alloc ?_ _)); exact BK238.out)⟩; have n1_ : Aside0 (Below w.heap.size w wr) := ⟨by rw [← hq_]; exact (by repeat (first | (with_reducible first | exact HB.out | apply below_alloc | apply pw_below_drewN | apply below_drew1 | refine below_set ?_ GE238.out) | exact HB.out))⟩; clear BK238 HB hq_; have BK238 := n0_; have HB := n1_; clear n0_ n1_))) | ((with_reducible refine gate_callee (f := 27) rfl ?_); refine goesL_ (some 61) rfl rfl Tryd.func27 (by kernel_rfl) rfl #[.string (a0.extract (x7_13 : Int).toNat (x9_3 : Int).toNat)] rfl (by (try simp only [List.map_toArray, List.map_cons, List.map_nil]); first | done | rfl | (simp only [List.length_drop, List.length_take]; rfl)) ?_; (with_reducible refine (switchyardref06_Name.calls k3 (a0.extract (x7_13 : Int).toNat (x9_3 : Int).toNat) true _ A24.out).mono ?_); rintro e w' ⟨rfl, ⟨nd, rfl⟩⟩; refine ⟨_, rfl, ?_⟩; (try (rw [drewN_self wr]; generalize hq_ : World.drewN wr _ = wr; have n0_ : Aside0 (wr.heap[gb238]? = some (.cells #[.int .i64 0, .string (⟨#[]⟩ : ByteArray), .int .i64 0, .int .i64 0] 32 (0, 0))) := ⟨by rw [← hq_]; exact (by (with_reducible repeat (first | refine blk_drewN ?_ _ | refine blk_drew ?_ | refine blk_alloc ?_ _)); exact BK238.out)⟩; have n1_ : Aside0 (Below w.heap.size w wr) := ⟨by rw [← hq_]; exact (by repeat (first | (with_reducible first | exact HB.out | apply below_alloc | apply pw_below_drewN | apply below_drew1 | refine below_set ?_ GE238.out) | exact HB.out))⟩; clear BK238 HB hq_; have BK238 := n0_; have HB := n1_; clear n0_ n1_)); have hcz29_0 : wr.cell? ⟨gb238, 0, none⟩ = some (.int .i64 0) := (blk_cell BK238.out 0).trans rfl; have hcz29_1 : wr.cell? ⟨gb238, 1, none⟩ = some (.string (⟨#[]⟩ : ByteArray)) := (blk_cell BK238.out 1).trans rfl; have hcz29_2 : wr.cell? ⟨gb238, 2, none⟩ = some (.int .i64 0) := (blk_cell BK238.out 2).trans rfl; have hcz29_3 : wr.cell? ⟨gb238, 3, none⟩ = some (.int .i64 0) := (blk_cell BK238.out 3).trans rfl; have hfz29_0 := blk_frozen BK238.out 0; have hfz29_1 := blk_frozen BK238.out 1; have hfz29_2 := blk_frozen BK238.out 2; have hfz29_3 := blk_frozen BK238.out 3))
                                  refine bodyPost_ret (results_ct rfl _ _ gb238 32 #[.int .i64 x8_13, .string (a0.extract (x7_13 : Int).toNat (x9_3 : Int).toNat), .int .i64 0, .int .i64 a1] (0, 0) _ rfl (by (with_reducible repeat (first | refine blk_drewN ?_ _ | refine blk_drew ?_ | refine blk_alloc ?_ _)); refine blk_put (cs := #[.int .i64 x8_13, .string (a0.extract (x7_13 : Int).toNat (x9_3 : Int).toNat), .int .i64 0, .int .i64 0]) ?_ 3 _ rfl; (with_reducible repeat (first | refine blk_drewN ?_ _ | refine blk_drew ?_ | refine blk_alloc ?_ _)); refine blk_put (cs := #[.int .i64 x8_13, .string (a0.extract (x7_13 : Int).toNat (x9_3 : Int).toNat), .int .i64 0, .int .i64 0]) ?_ 2 _ rfl; (with_reducible repeat (first | refine blk_drewN ?_ _ | refine blk_drew ?_ | refine blk_alloc ?_ _)); refine blk_put (cs := #[.int .i64 x8_13, .string (⟨#[]⟩ : ByteArray), .int .i64 0, .int .i64 0]) ?_ 1 _ rfl; (with_reducible repeat (first | refine blk_drewN ?_ _ | refine blk_drew ?_ | refine blk_alloc ?_ _)); refine blk_put (cs := #[.int .i64 0, .string (⟨#[]⟩ : ByteArray), .int .i64 0, .int .i64 0]) ?_ 0 _ rfl; (with_reducible repeat (first | refine blk_drewN ?_ _ | refine blk_drew ?_ | refine blk_alloc ?_ _)); exact BK238.out) Tryd.underlying32 rfl (by kernel_rfl)) rfl ?_
                                  exact ⟨by first | rfl | (simp [errW_none, errW_some] <;> rfl) | (simp [*, errW_none, errW_some] <;> rfl), by repeat (first | (with_reducible first | exact HB.out | apply below_alloc | apply pw_below_drewN | apply below_drew1 | refine below_set ?_ GE238.out) | exact HB.out)⟩
                                · replace c25 := Bool.eq_false_iff.mpr c25
                                  subst c25
                                  have H1 : (some (0, (⟨#[]⟩ : ByteArray), 0, 0, 0)) = some (r1, r2, r3, r4, r5) := by rw [if_neg (show ¬ (false = true) by decide)] at H; exact H
                                  clear H
                                  have H := H1
                                  clear H1
                                  simp only [Option.some.injEq, Prod.mk.injEq] at H
                                  obtain ⟨rfl, rfl, rfl, rfl, rfl⟩ := H
                                  have p18 : 0 ≤ (x9_3 : Int) := of_decide_eq_true (by first | (with_reducible assumption) | assumption)
                                  have q18 : x9_3 < (a0.size : Int) := of_decide_eq_true (by first | (with_reducible assumption) | assumption)
                                  have hx18 := bt_at a0 x9_3
                                  replace p18 := eq_true p18
                                  replace q18 := eq_true q18
                                  go_wp2_with (first | (go_at_call 26; refine calls_of_args (args' := #[.int .u8 (bt a0 x9_3)]) (by first | rfl) ?_; (with_reducible refine (switchyardref07_word.calls (bt a0 x9_3) false _ A19.out).mono ?_); rintro e w' ⟨rfl, ⟨nd, rfl⟩⟩; (try (rw [drewN_self wr]; generalize hq_ : World.drewN wr _ = wr; have n0_ : Aside0 (wr.heap[gb238]? = some (.cells #[.int .i64 0, .string (⟨#[]⟩ : ByteArray), .int .i64 0, .int .i64 0] 32 (0, 0))) := ⟨by rw [← hq_]; exact (by (with_reducible repeat (first | refine blk_drewN ?_ _ | refine blk_drew ?_ | refine blk_alloc ?_ _)); exact BK238.out)⟩; have n1_ : Aside0 (Below w.heap.size w wr) := ⟨by rw [← hq_]; exact (by repeat (first | (with_reducible first | exact HB.out | apply below_alloc | apply pw_below_drewN | apply below_drew1 | refine below_set ?_ GE238.out) | exact HB.out))⟩; clear BK238 HB hq_; have BK238 := n0_; have HB := n1_; clear n0_ n1_))) | ((with_reducible refine gate_callee (f := 27) rfl ?_); refine goesL_ (some 61) rfl rfl Tryd.func27 (by kernel_rfl) rfl #[.string (a0.extract (x7_13 : Int).toNat (x9_3 : Int).toNat)] rfl (by (try simp only [List.map_toArray, List.map_cons, List.map_nil]); first | done | rfl | (simp only [List.length_drop, List.length_take]; rfl)) ?_; (with_reducible refine (switchyardref06_Name.calls k3 (a0.extract (x7_13 : Int).toNat (x9_3 : Int).toNat) false _ A24.out).mono ?_); rintro e w' ⟨rfl, ⟨nd, rfl⟩⟩; refine ⟨_, rfl, ?_⟩; (try (rw [drewN_self wr]; generalize hq_ : World.drewN wr _ = wr; have n0_ : Aside0 (wr.heap[gb238]? = some (.cells #[.int .i64 0, .string (⟨#[]⟩ : ByteArray), .int .i64 0, .int .i64 0] 32 (0, 0))) := ⟨by rw [← hq_]; exact (by (with_reducible repeat (first | refine blk_drewN ?_ _ | refine blk_drew ?_ | refine blk_alloc ?_ _)); exact BK238.out)⟩; have n1_ : Aside0 (Below w.heap.size w wr) := ⟨by rw [← hq_]; exact (by repeat (first | (with_reducible first | exact HB.out | apply below_alloc | apply pw_below_drewN | apply below_drew1 | refine below_set ?_ GE238.out) | exact HB.out))⟩; clear BK238 HB hq_; have BK238 := n0_; have HB := n1_; clear n0_ n1_)); have hcz30_0 : wr.cell? ⟨gb238, 0, none⟩ = some (.int .i64 0) := (blk_cell BK238.out 0).trans rfl; have hcz30_1 : wr.cell? ⟨gb238, 1, none⟩ = some (.string (⟨#[]⟩ : ByteArray)) := (blk_cell BK238.out 1).trans rfl; have hcz30_2 : wr.cell? ⟨gb238, 2, none⟩ = some (.int .i64 0) := (blk_cell BK238.out 2).trans rfl; have hcz30_3 : wr.cell? ⟨gb238, 3, none⟩ = some (.int .i64 0) := (blk_cell BK238.out 3).trans rfl; have hfz30_0 := blk_frozen BK238.out 0; have hfz30_1 := blk_frozen BK238.out 1; have hfz30_2 := blk_frozen BK238.out 2; have hfz30_3 := blk_frozen BK238.out 3))
                                  refine bodyPost_ret (results_ct rfl _ _ gb238 32 #[.int .i64 0, .string (⟨#[]⟩ : ByteArray), .int .i64 0, .int .i64 0] (0, 0) _ rfl (by (with_reducible repeat (first | refine blk_drewN ?_ _ | refine blk_drew ?_ | refine blk_alloc ?_ _)); refine blk_put (cs := #[.int .i64 0, .string (⟨#[]⟩ : ByteArray), .int .i64 0, .int .i64 0]) ?_ 3 _ rfl; (with_reducible repeat (first | refine blk_drewN ?_ _ | refine blk_drew ?_ | refine blk_alloc ?_ _)); refine blk_put (cs := #[.int .i64 0, .string (⟨#[]⟩ : ByteArray), .int .i64 0, .int .i64 0]) ?_ 2 _ rfl; (with_reducible repeat (first | refine blk_drewN ?_ _ | refine blk_drew ?_ | refine blk_alloc ?_ _)); refine blk_put (cs := #[.int .i64 0, .string (⟨#[]⟩ : ByteArray), .int .i64 0, .int .i64 0]) ?_ 1 _ rfl; (with_reducible repeat (first | refine blk_drewN ?_ _ | refine blk_drew ?_ | refine blk_alloc ?_ _)); refine blk_put (cs := #[.int .i64 0, .string (⟨#[]⟩ : ByteArray), .int .i64 0, .int .i64 0]) ?_ 0 _ rfl; (with_reducible repeat (first | refine blk_drewN ?_ _ | refine blk_drew ?_ | refine blk_alloc ?_ _)); exact BK238.out) Tryd.underlying32 rfl (by kernel_rfl)) rfl ?_
                                  exact ⟨by first | rfl | (simp [errW_none, errW_some] <;> rfl) | (simp [*, errW_none, errW_some] <;> rfl), by repeat (first | (with_reducible first | exact HB.out | apply below_alloc | apply pw_below_drewN | apply below_drew1 | refine below_set ?_ GE238.out) | exact HB.out)⟩
                              · rw [if_neg c23] at H
                                exact absurd H (by simp)
                            · rw [if_neg c22] at H
                              exact absurd H (by simp)
                          · rw [if_neg c21] at H
                            exact absurd H (by simp)
                      · rw [if_neg c17] at H
                        exact absurd H (by simp)
                    · rw [if_neg c16] at H
                      have c16b0 : decide (x9_3 < (a0.size : Int)) = false := decide_eq_false c16
                      clear c16
                      by_cases c31 : 0 ≤ x7_13
                      · rw [if_pos c31] at H
                        have c31b0 := eq_true c31
                        have c31b1 : decide (0 ≤ x7_13) = true := decide_eq_true c31
                        clear c31
                        by_cases c32 : x7_13 ≤ x9_3
                        · rw [if_pos c32] at H
                          have c32b0 := eq_true c32
                          have c32b1 : decide (x7_13 ≤ x9_3) = true := decide_eq_true c32
                          clear c32
                          by_cases c33 : x9_3 ≤ (a0.size : Int)
                          · rw [if_pos c33] at H
                            have c33b0 := eq_true c33
                            have c33b1 : decide (x9_3 ≤ (a0.size : Int)) = true := decide_eq_true c33
                            clear c33
                            replace H := Option.bind_eq_some_iff.mp H
                            obtain ⟨t242, A340, H⟩ := H
                            replace H : (if t242 = true then (some (x8_13, a0.extract (x7_13 : Int).toNat (x9_3 : Int).toNat, 0, a1, wrap64 (x9_3 - a1))) else (some (0, (⟨#[]⟩ : ByteArray), 0, 0, 0))) = some (r1, r2, r3, r4, r5) := H
                            have A34 := Aside0.mk A340
                            clear A340
                            by_cases c35 : t242 = true
                            · subst c35
                              have H1 : (some (x8_13, a0.extract (x7_13 : Int).toNat (x9_3 : Int).toNat, 0, a1, wrap64 (x9_3 - a1))) = some (r1, r2, r3, r4, r5) := by rw [if_pos rfl] at H; exact H
                              clear H
                              have H := H1
                              clear H1
                              have c36b0 := eq_true (of_decide_eq_true (by first | (with_reducible assumption) | assumption) : 0 ≤ x7_13)
                              have c37b0 := eq_true (of_decide_eq_true (by first | (with_reducible assumption) | assumption) : x7_13 ≤ x9_3)
                              have c38b0 := eq_true (of_decide_eq_true (by first | (with_reducible assumption) | assumption) : x9_3 ≤ (a0.size : Int))
                              simp only [Option.some.injEq, Prod.mk.injEq] at H
                              obtain ⟨rfl, rfl, rfl, rfl, rfl⟩ := H
                              go_wp2_with (first | ((with_reducible refine gate_callee (f := 27) rfl ?_); refine goesL_ (some 61) rfl rfl Tryd.func27 (by kernel_rfl) rfl #[.string (a0.extract (x7_13 : Int).toNat (x9_3 : Int).toNat)] rfl (by (try simp only [List.map_toArray, List.map_cons, List.map_nil]); first | done | rfl | (simp only [List.length_drop, List.length_take]; rfl)) ?_; (with_reducible refine (switchyardref06_Name.calls k3 (a0.extract (x7_13 : Int).toNat (x9_3 : Int).toNat) true _ A34.out).mono ?_); rintro e w' ⟨rfl, ⟨nd, rfl⟩⟩; refine ⟨_, rfl, ?_⟩; (try (rw [drewN_self wr]; generalize hq_ : World.drewN wr _ = wr; have n0_ : Aside0 (wr.heap[gb238]? = some (.cells #[.int .i64 0, .string (⟨#[]⟩ : ByteArray), .int .i64 0, .int .i64 0] 32 (0, 0))) := ⟨by rw [← hq_]; exact (by (with_reducible repeat (first | refine blk_drewN ?_ _ | refine blk_drew ?_ | refine blk_alloc ?_ _)); exact BK238.out)⟩; have n1_ : Aside0 (Below w.heap.size w wr) := ⟨by rw [← hq_]; exact (by repeat (first | (with_reducible first | exact HB.out | apply below_alloc | apply pw_below_drewN | apply below_drew1 | refine below_set ?_ GE238.out) | exact HB.out))⟩; clear BK238 HB hq_; have BK238 := n0_; have HB := n1_; clear n0_ n1_)); have hcz39_0 : wr.cell? ⟨gb238, 0, none⟩ = some (.int .i64 0) := (blk_cell BK238.out 0).trans rfl; have hcz39_1 : wr.cell? ⟨gb238, 1, none⟩ = some (.string (⟨#[]⟩ : ByteArray)) := (blk_cell BK238.out 1).trans rfl; have hcz39_2 : wr.cell? ⟨gb238, 2, none⟩ = some (.int .i64 0) := (blk_cell BK238.out 2).trans rfl; have hcz39_3 : wr.cell? ⟨gb238, 3, none⟩ = some (.int .i64 0) := (blk_cell BK238.out 3).trans rfl; have hfz39_0 := blk_frozen BK238.out 0; have hfz39_1 := blk_frozen BK238.out 1; have hfz39_2 := blk_frozen BK238.out 2; have hfz39_3 := blk_frozen BK238.out 3))
                              refine bodyPost_ret (results_ct rfl _ _ gb238 32 #[.int .i64 x8_13, .string (a0.extract (x7_13 : Int).toNat (x9_3 : Int).toNat), .int .i64 0, .int .i64 a1] (0, 0) _ rfl (by (with_reducible repeat (first | refine blk_drewN ?_ _ | refine blk_drew ?_ | refine blk_alloc ?_ _)); refine blk_put (cs := #[.int .i64 x8_13, .string (a0.extract (x7_13 : Int).toNat (x9_3 : Int).toNat), .int .i64 0, .int .i64 0]) ?_ 3 _ rfl; (with_reducible repeat (first | refine blk_drewN ?_ _ | refine blk_drew ?_ | refine blk_alloc ?_ _)); refine blk_put (cs := #[.int .i64 x8_13, .string (a0.extract (x7_13 : Int).toNat (x9_3 : Int).toNat), .int .i64 0, .int .i64 0]) ?_ 2 _ rfl; (with_reducible repeat (first | refine blk_drewN ?_ _ | refine blk_drew ?_ | refine blk_alloc ?_ _)); refine blk_put (cs := #[.int .i64 x8_13, .string (⟨#[]⟩ : ByteArray), .int .i64 0, .int .i64 0]) ?_ 1 _ rfl; (with_reducible repeat (first | refine blk_drewN ?_ _ | refine blk_drew ?_ | refine blk_alloc ?_ _)); refine blk_put (cs := #[.int .i64 0, .string (⟨#[]⟩ : ByteArray), .int .i64 0, .int .i64 0]) ?_ 0 _ rfl; (with_reducible repeat (first | refine blk_drewN ?_ _ | refine blk_drew ?_ | refine blk_alloc ?_ _)); exact BK238.out) Tryd.underlying32 rfl (by kernel_rfl)) rfl ?_
                              exact ⟨by first | rfl | (simp [errW_none, errW_some] <;> rfl) | (simp [*, errW_none, errW_some] <;> rfl), by repeat (first | (with_reducible first | exact HB.out | apply below_alloc | apply pw_below_drewN | apply below_drew1 | refine below_set ?_ GE238.out) | exact HB.out)⟩
                            · replace c35 := Bool.eq_false_iff.mpr c35
                              subst c35
                              have H1 : (some (0, (⟨#[]⟩ : ByteArray), 0, 0, 0)) = some (r1, r2, r3, r4, r5) := by rw [if_neg (show ¬ (false = true) by decide)] at H; exact H
                              clear H
                              have H := H1
                              clear H1
                              simp only [Option.some.injEq, Prod.mk.injEq] at H
                              obtain ⟨rfl, rfl, rfl, rfl, rfl⟩ := H
                              go_wp2_with (first | ((with_reducible refine gate_callee (f := 27) rfl ?_); refine goesL_ (some 61) rfl rfl Tryd.func27 (by kernel_rfl) rfl #[.string (a0.extract (x7_13 : Int).toNat (x9_3 : Int).toNat)] rfl (by (try simp only [List.map_toArray, List.map_cons, List.map_nil]); first | done | rfl | (simp only [List.length_drop, List.length_take]; rfl)) ?_; (with_reducible refine (switchyardref06_Name.calls k3 (a0.extract (x7_13 : Int).toNat (x9_3 : Int).toNat) false _ A34.out).mono ?_); rintro e w' ⟨rfl, ⟨nd, rfl⟩⟩; refine ⟨_, rfl, ?_⟩; (try (rw [drewN_self wr]; generalize hq_ : World.drewN wr _ = wr; have n0_ : Aside0 (wr.heap[gb238]? = some (.cells #[.int .i64 0, .string (⟨#[]⟩ : ByteArray), .int .i64 0, .int .i64 0] 32 (0, 0))) := ⟨by rw [← hq_]; exact (by (with_reducible repeat (first | refine blk_drewN ?_ _ | refine blk_drew ?_ | refine blk_alloc ?_ _)); exact BK238.out)⟩; have n1_ : Aside0 (Below w.heap.size w wr) := ⟨by rw [← hq_]; exact (by repeat (first | (with_reducible first | exact HB.out | apply below_alloc | apply pw_below_drewN | apply below_drew1 | refine below_set ?_ GE238.out) | exact HB.out))⟩; clear BK238 HB hq_; have BK238 := n0_; have HB := n1_; clear n0_ n1_)); have hcz40_0 : wr.cell? ⟨gb238, 0, none⟩ = some (.int .i64 0) := (blk_cell BK238.out 0).trans rfl; have hcz40_1 : wr.cell? ⟨gb238, 1, none⟩ = some (.string (⟨#[]⟩ : ByteArray)) := (blk_cell BK238.out 1).trans rfl; have hcz40_2 : wr.cell? ⟨gb238, 2, none⟩ = some (.int .i64 0) := (blk_cell BK238.out 2).trans rfl; have hcz40_3 : wr.cell? ⟨gb238, 3, none⟩ = some (.int .i64 0) := (blk_cell BK238.out 3).trans rfl; have hfz40_0 := blk_frozen BK238.out 0; have hfz40_1 := blk_frozen BK238.out 1; have hfz40_2 := blk_frozen BK238.out 2; have hfz40_3 := blk_frozen BK238.out 3))
                              refine bodyPost_ret (results_ct rfl _ _ gb238 32 #[.int .i64 0, .string (⟨#[]⟩ : ByteArray), .int .i64 0, .int .i64 0] (0, 0) _ rfl (by (with_reducible repeat (first | refine blk_drewN ?_ _ | refine blk_drew ?_ | refine blk_alloc ?_ _)); refine blk_put (cs := #[.int .i64 0, .string (⟨#[]⟩ : ByteArray), .int .i64 0, .int .i64 0]) ?_ 3 _ rfl; (with_reducible repeat (first | refine blk_drewN ?_ _ | refine blk_drew ?_ | refine blk_alloc ?_ _)); refine blk_put (cs := #[.int .i64 0, .string (⟨#[]⟩ : ByteArray), .int .i64 0, .int .i64 0]) ?_ 2 _ rfl; (with_reducible repeat (first | refine blk_drewN ?_ _ | refine blk_drew ?_ | refine blk_alloc ?_ _)); refine blk_put (cs := #[.int .i64 0, .string (⟨#[]⟩ : ByteArray), .int .i64 0, .int .i64 0]) ?_ 1 _ rfl; (with_reducible repeat (first | refine blk_drewN ?_ _ | refine blk_drew ?_ | refine blk_alloc ?_ _)); refine blk_put (cs := #[.int .i64 0, .string (⟨#[]⟩ : ByteArray), .int .i64 0, .int .i64 0]) ?_ 0 _ rfl; (with_reducible repeat (first | refine blk_drewN ?_ _ | refine blk_drew ?_ | refine blk_alloc ?_ _)); exact BK238.out) Tryd.underlying32 rfl (by kernel_rfl)) rfl ?_
                              exact ⟨by first | rfl | (simp [errW_none, errW_some] <;> rfl) | (simp [*, errW_none, errW_some] <;> rfl), by repeat (first | (with_reducible first | exact HB.out | apply below_alloc | apply pw_below_drewN | apply below_drew1 | refine below_set ?_ GE238.out) | exact HB.out)⟩
                          · rw [if_neg c33] at H
                            exact absurd H (by simp)
                        · rw [if_neg c32] at H
                          exact absurd H (by simp)
                      · rw [if_neg c31] at H
                        exact absurd H (by simp)
          · replace c13 := Bool.eq_false_iff.mpr c13
            subst c13
            have H1 : (if (bt a0 a1) ≥ 48 then (switchyardref07_token.j3 kj5 a0 a1 (bt a0 a1) (decide ((bt a0 a1) ≤ 57))) else (switchyardref07_token.j3 kj5 a0 a1 (bt a0 a1) false)) = some (r1, r2, r3, r4, r5) := by rw [if_neg (show ¬ (false = true) by decide)] at H; exact H
            clear H
            have H := H1
            clear H1
            have HC41 := Aside0.mk H
            clear H
            go_upto_region 14 with (fail)
            go_cut [79] (fun v79 wc => ∃ (kq : Nat) (x79_40 : Bool), v79 = .bool x79_40 ∧ Aside0 (switchyardref07_token.j3 kq a0 a1 (bt a0 a1) x79_40 = some (r1, r2, r3, r4, r5)) ∧ Aside0 (kq ≤ kj5) ∧ Aside0 (wc.heap[gb238]? = some (.cells #[.int .i64 0, .string (⟨#[]⟩ : ByteArray), .int .i64 0, .int .i64 0] 32 (0, 0))) ∧ Aside0 (Below w.heap.size w wc))
            case first =>
              have H := HC41.out
              clear HC41
              by_cases c42 : (bt a0 a1) ≥ 48
              · rw [if_pos c42] at H
                have c42b0 : decide (48 ≤ (bt a0 a1)) = true := decide_eq_true c42
                clear c42
                (first | rw [c42b0] | (simp only [i64_w, i32_w]; rw [c42b0]) | skip)
                have H' := Aside0.mk H
                clear H
                go_wp2
                go_meet
                case rel => exact ⟨_, (decide ((bt a0 a1) ≤ 57)), (by first | rfl | (simp; done) | (simp [*]; done)), H', ⟨by have := HJ5.out; first | omega | exact Nat.le_refl _⟩, ⟨by (with_reducible repeat (first | refine blk_drewN ?_ _ | refine blk_drew ?_ | refine blk_alloc ?_ _)); exact BK238.out⟩, ⟨by repeat (first | (with_reducible first | exact HB.out | apply below_alloc | apply pw_below_drewN | apply below_drew1 | refine below_set ?_ GE238.out) | exact HB.out)⟩⟩
              · rw [if_neg c42] at H
                have c42b0 : decide (48 ≤ (bt a0 a1)) = false := decide_eq_false c42
                clear c42
                (first | rw [c42b0] | (simp only [i64_w, i32_w]; rw [c42b0]) | skip)
                have H' := Aside0.mk H
                clear H
                go_wp2
                go_meet
                case rel => exact ⟨_, (false), (by first | rfl | (simp; done) | (simp [*]; done)), H', ⟨by have := HJ5.out; first | omega | exact Nat.le_refl _⟩, ⟨by (with_reducible repeat (first | refine blk_drewN ?_ _ | refine blk_drew ?_ | refine blk_alloc ?_ _)); exact BK238.out⟩, ⟨by repeat (first | (with_reducible first | exact HB.out | apply below_alloc | apply pw_below_drewN | apply below_drew1 | refine below_set ?_ GE238.out) | exact HB.out)⟩⟩
            case rest =>
              clear HC41
              try clear c1
              try clear p1
              try clear q1
              try clear hx1
              try clear c2
              try clear p2
              try clear c3
              try clear c3b0
              try clear c4
              try clear c4b0
              try clear p5
              try clear q5
              try clear hx5
              try clear p6
              try clear c8
              try clear c8b0
              try clear c8b1
              try clear c10
              try clear c11
              try clear c11b0
              try clear c12
              try clear c12b0
              try clear c13
              try clear c15
              try clear c15b0
              try clear c15b1
              try clear c16
              try clear c16b0
              try clear c17
              try clear c17b0
              try clear p18
              try clear q18
              try clear hx18
              try clear c20
              try clear c21
              try clear c21b0
              try clear c21b1
              try clear c22
              try clear c22b0
              try clear c22b1
              try clear c23
              try clear c23b0
              try clear c23b1
              try clear c25
              try clear c26
              try clear c26b0
              try clear c27
              try clear c27b0
              try clear c28
              try clear c28b0
              try clear c31
              try clear c31b0
              try clear c31b1
              try clear c32
              try clear c32b0
              try clear c32b1
              try clear c33
              try clear c33b0
              try clear c33b1
              try clear c35
              try clear c36
              try clear c36b0
              try clear c37
              try clear c37b0
              try clear c38
              try clear c38b0
              try clear c42
              try clear c42b0
              try clear hcz29_0
              try clear hcz29_1
              try clear hcz29_2
              try clear hcz29_3
              try clear hcz30_0
              try clear hcz30_1
              try clear hcz30_2
              try clear hcz30_3
              try clear hcz39_0
              try clear hcz39_1
              try clear hcz39_2
              try clear hcz39_3
              try clear hcz40_0
              try clear hcz40_1
              try clear hcz40_2
              try clear hcz40_3
              try clear hfz29_0
              try clear hfz29_1
              try clear hfz29_2
              try clear hfz29_3
              try clear hfz30_0
              try clear hfz30_1
              try clear hfz30_2
              try clear hfz30_3
              try clear hfz39_0
              try clear hfz39_1
              try clear hfz39_2
              try clear hfz39_3
              try clear hfz40_0
              try clear hfz40_1
              try clear hfz40_2
              try clear hfz40_3
              try clear p18
              try clear p2
              try clear p5
              try clear p6
              try clear q18
              try clear q5
              obtain ⟨kq, x79_40, rfl, HA, HJ40, BK238, HB⟩ := hcut
              cases kq with
              | zero => exact absurd HA.out (by simp [switchyardref07_token.j3])
              | succ kj40 =>
                have H := HA.out
                clear HA
                simp only [switchyardref07_token.j3] at H
                by_cases c43 : x79_40 = true
                · subst c43
                  have H1 : (switchyardref07_token.l1 kj40 a0 a1 a1) = some (r1, r2, r3, r4, r5) := by rw [if_pos rfl] at H; exact H
                  clear H
                  have H := H1
                  clear H1
                  have H' := Aside0.mk H
                  clear H
                  go_wp2
                  go_loopg [10] kj40 (fun kq v10 w' => ∃ (x10_3 : Int), v10 = .int .i64 x10_3 ∧ Aside0 (switchyardref07_token.l1 kq a0 a1 x10_3 = some (r1, r2, r3, r4, r5)) ∧ Aside0 (kq ≤ kj40) ∧ Aside0 (w'.heap[gb238]? = some (.cells #[.int .i64 0, .string (⟨#[]⟩ : ByteArray), .int .i64 0, .int .i64 0] 32 (0, 0))) ∧ Aside0 (Below w.heap.size w w'))
                  case atStart => exact ⟨(a1), (by first | rfl | (simp; done) | (simp [*]; done)), H', ⟨Nat.le_refl _⟩, ⟨by (with_reducible repeat (first | refine blk_drewN ?_ _ | refine blk_drew ?_ | refine blk_alloc ?_ _)); exact BK238.out⟩, ⟨by repeat (first | (with_reducible first | exact HB.out | apply below_alloc | apply pw_below_drewN | apply below_drew1 | refine below_set ?_ GE238.out) | exact HB.out)⟩⟩
                  case round =>
                    clear H'
                    try clear c1
                    try clear p1
                    try clear q1
                    try clear hx1
                    try clear c2
                    try clear p2
                    try clear c3
                    try clear c3b0
                    try clear c4
                    try clear c4b0
                    try clear p5
                    try clear q5
                    try clear hx5
                    try clear p6
                    try clear c8
                    try clear c8b0
                    try clear c8b1
                    try clear c10
                    try clear c11
                    try clear c11b0
                    try clear c12
                    try clear c12b0
                    try clear c13
                    try clear c15
                    try clear c15b0
                    try clear c15b1
                    try clear c16
                    try clear c16b0
                    try clear c17
                    try clear c17b0
                    try clear p18
                    try clear q18
                    try clear hx18
                    try clear c20
                    try clear c21
                    try clear c21b0
                    try clear c21b1
                    try clear c22
                    try clear c22b0
                    try clear c22b1
                    try clear c23
                    try clear c23b0
                    try clear c23b1
                    try clear c25
                    try clear c26
                    try clear c26b0
                    try clear c27
                    try clear c27b0
                    try clear c28
                    try clear c28b0
                    try clear c31
                    try clear c31b0
                    try clear c31b1
                    try clear c32
                    try clear c32b0
                    try clear c32b1
                    try clear c33
                    try clear c33b0
                    try clear c33b1
                    try clear c35
                    try clear c36
                    try clear c36b0
                    try clear c37
                    try clear c37b0
                    try clear c38
                    try clear c38b0
                    try clear c42
                    try clear c42b0
                    try clear c43
                    try clear hcz29_0
                    try clear hcz29_1
                    try clear hcz29_2
                    try clear hcz29_3
                    try clear hcz30_0
                    try clear hcz30_1
                    try clear hcz30_2
                    try clear hcz30_3
                    try clear hcz39_0
                    try clear hcz39_1
                    try clear hcz39_2
                    try clear hcz39_3
                    try clear hcz40_0
                    try clear hcz40_1
                    try clear hcz40_2
                    try clear hcz40_3
                    try clear hfz29_0
                    try clear hfz29_1
                    try clear hfz29_2
                    try clear hfz29_3
                    try clear hfz30_0
                    try clear hfz30_1
                    try clear hfz30_2
                    try clear hfz30_3
                    try clear hfz39_0
                    try clear hfz39_1
                    try clear hfz39_2
                    try clear hfz39_3
                    try clear hfz40_0
                    try clear hfz40_1
                    try clear hfz40_2
                    try clear hfz40_3
                    try clear p1
                    try clear p18
                    try clear p2
                    try clear p5
                    try clear p6
                    try clear q1
                    try clear q18
                    try clear q5
                    obtain ⟨x10_3, rfl, HA, HK3, BK238, HB⟩ := hrel
                    cases gk with
                    | zero => exact absurd HA.out (by simp [switchyardref07_token.l1])
                    | succ k3 =>
                      have H := HA.out
                      clear HA
                      simp only [switchyardref07_token.l1] at H
                      by_cases c44 : x10_3 < (a0.size : Int)
                      · rw [if_pos c44] at H
                        have c44b0 : decide (x10_3 < (a0.size : Int)) = true := decide_eq_true c44
                        clear c44
                        by_cases c45 : 0 ≤ x10_3
                        · rw [if_pos c45] at H
                          have c45b0 : decide (0 ≤ x10_3) = true := decide_eq_true c45
                          clear c45
                          by_cases c47 : (bt a0 x10_3) ≥ 48
                          · rw [if_pos c47] at H
                            have c47b0 : decide (48 ≤ (bt a0 x10_3)) = true := decide_eq_true c47
                            clear c47
                            by_cases c49 : (bt a0 x10_3) ≤ 57
                            · rw [if_pos c49] at H
                              have c49b0 : decide ((bt a0 x10_3) ≤ 57) = true := decide_eq_true c49
                              clear c49
                              have H' := Aside0.mk H
                              clear H
                              have p46 : 0 ≤ (x10_3 : Int) := of_decide_eq_true (by first | (with_reducible assumption) | assumption)
                              have q46 : x10_3 < (a0.size : Int) := of_decide_eq_true (by first | (with_reducible assumption) | assumption)
                              have hx46 := bt_at a0 x10_3
                              replace p46 := eq_true p46
                              replace q46 := eq_true q46
                              have p48 : 0 ≤ (x10_3 : Int) := of_decide_eq_true (by first | (with_reducible assumption) | assumption)
                              have q48 : x10_3 < (a0.size : Int) := of_decide_eq_true (by first | (with_reducible assumption) | assumption)
                              have hx48 := bt_at a0 x10_3
                              replace p48 := eq_true p48
                              replace q48 := eq_true q48
                              go_wp2
                              go_roundg k3
                              case measure => have := HJ5.out; have := HJ40.out; have := HK3.out; omega
                              case rel => exact ⟨(wrap64 (x10_3 + 1)), (by first | rfl | (simp; done) | (simp [*]; done)), H', ⟨by have := HJ5.out; have := HJ40.out; have := HK3.out; omega⟩, ⟨by (with_reducible repeat (first | refine blk_drewN ?_ _ | refine blk_drew ?_ | refine blk_alloc ?_ _)); exact BK238.out⟩, ⟨by repeat (first | (with_reducible first | exact HB.out | apply below_alloc | apply pw_below_drewN | apply below_drew1 | refine below_set ?_ GE238.out) | exact HB.out)⟩⟩
                            · rw [if_neg c49] at H
                              have c49b0 : decide ((bt a0 x10_3) ≤ 57) = false := decide_eq_false c49
                              clear c49
                              by_cases c50 : 0 ≤ a1
                              · rw [if_pos c50] at H
                                have c50b0 := eq_true c50
                                have c50b1 : decide (0 ≤ a1) = true := decide_eq_true c50
                                clear c50
                                by_cases c51 : a1 ≤ x10_3
                                · rw [if_pos c51] at H
                                  have c51b0 := eq_true c51
                                  have c51b1 : decide (a1 ≤ x10_3) = true := decide_eq_true c51
                                  clear c51
                                  by_cases c52 : x10_3 ≤ (a0.size : Int)
                                  · rw [if_pos c52] at H
                                    have c52b0 := eq_true c52
                                    have c52b1 : decide (x10_3 ≤ (a0.size : Int)) = true := decide_eq_true c52
                                    clear c52
                                    replace H := Option.bind_eq_some_iff.mp H
                                    obtain ⟨⟨t243, t244⟩, A530, H⟩ := H
                                    replace H : (if t244 = true then (some (2, a0.extract (a1 : Int).toNat (x10_3 : Int).toNat, t243, a1, wrap64 (x10_3 - a1))) else (some (0, (⟨#[]⟩ : ByteArray), 0, 0, 0))) = some (r1, r2, r3, r4, r5) := H
                                    have A53 := Aside0.mk A530
                                    clear A530
                                    by_cases c54 : t244 = true
                                    · subst c54
                                      have H1 : (some (2, a0.extract (a1 : Int).toNat (x10_3 : Int).toNat, t243, a1, wrap64 (x10_3 - a1))) = some (r1, r2, r3, r4, r5) := by rw [if_pos rfl] at H; exact H
                                      clear H
                                      have H := H1
                                      clear H1
                                      have c55b0 := eq_true (of_decide_eq_true (by first | (with_reducible assumption) | assumption) : 0 ≤ a1)
                                      have c56b0 := eq_true (of_decide_eq_true (by first | (with_reducible assumption) | assumption) : a1 ≤ x10_3)
                                      have c57b0 := eq_true (of_decide_eq_true (by first | (with_reducible assumption) | assumption) : x10_3 ≤ (a0.size : Int))
                                      simp only [Option.some.injEq, Prod.mk.injEq] at H
                                      obtain ⟨rfl, rfl, rfl, rfl, rfl⟩ := H
                                      have p46 : 0 ≤ (x10_3 : Int) := of_decide_eq_true (by first | (with_reducible assumption) | assumption)
                                      have q46 : x10_3 < (a0.size : Int) := of_decide_eq_true (by first | (with_reducible assumption) | assumption)
                                      have hx46 := bt_at a0 x10_3
                                      replace p46 := eq_true p46
                                      replace q46 := eq_true q46
                                      have p48 : 0 ≤ (x10_3 : Int) := of_decide_eq_true (by first | (with_reducible assumption) | assumption)
                                      have q48 : x10_3 < (a0.size : Int) := of_decide_eq_true (by first | (with_reducible assumption) | assumption)
                                      have hx48 := bt_at a0 x10_3
                                      replace p48 := eq_true p48
                                      replace q48 := eq_true q48
                                      go_wp2_with (first | ((with_reducible refine gate_callee (f := 28) rfl ?_); refine goesL_ (some 104) rfl rfl Tryd.func28 (by kernel_rfl) rfl #[.string (a0.extract (a1 : Int).toNat (x10_3 : Int).toNat)] rfl (by (try simp only [List.map_toArray, List.map_cons, List.map_nil]); first | done | rfl | (simp only [List.length_drop, List.length_take]; rfl)) ?_; (with_reducible refine (switchyardref07_digits.calls k3 (a0.extract (a1 : Int).toNat (x10_3 : Int).toNat) t243 true _ A53.out).mono ?_); rintro e w' ⟨rfl, ⟨nd, rfl⟩⟩; refine ⟨_, rfl, ?_⟩; (try (rw [drewN_self wr]; generalize hq_ : World.drewN wr _ = wr; have n0_ : Aside0 (wr.heap[gb238]? = some (.cells #[.int .i64 0, .string (⟨#[]⟩ : ByteArray), .int .i64 0, .int .i64 0] 32 (0, 0))) := ⟨by rw [← hq_]; exact (by (with_reducible repeat (first | refine blk_drewN ?_ _ | refine blk_drew ?_ | refine blk_alloc ?_ _)); exact BK238.out)⟩; have n1_ : Aside0 (Below w.heap.size w wr) := ⟨by rw [← hq_]; exact (by repeat (first | (with_reducible first | exact HB.out | apply below_alloc | apply pw_below_drewN | apply below_drew1 | refine below_set ?_ GE238.out) | exact HB.out))⟩; clear BK238 HB hq_; have BK238 := n0_; have HB := n1_; clear n0_ n1_)); have hcz58_0 : wr.cell? ⟨gb238, 0, none⟩ = some (.int .i64 0) := (blk_cell BK238.out 0).trans rfl; have hcz58_1 : wr.cell? ⟨gb238, 1, none⟩ = some (.string (⟨#[]⟩ : ByteArray)) := (blk_cell BK238.out 1).trans rfl; have hcz58_2 : wr.cell? ⟨gb238, 2, none⟩ = some (.int .i64 0) := (blk_cell BK238.out 2).trans rfl; have hcz58_3 : wr.cell? ⟨gb238, 3, none⟩ = some (.int .i64 0) := (blk_cell BK238.out 3).trans rfl; have hfz58_0 := blk_frozen BK238.out 0; have hfz58_1 := blk_frozen BK238.out 1; have hfz58_2 := blk_frozen BK238.out 2; have hfz58_3 := blk_frozen BK238.out 3))
                                      refine bodyPost_ret (results_ct rfl _ _ gb238 32 #[.int .i64 2, .string (a0.extract (a1 : Int).toNat (x10_3 : Int).toNat), .int .i64 t243, .int .i64 a1] (0, 0) _ rfl (by (with_reducible repeat (first | refine blk_drewN ?_ _ | refine blk_drew ?_ | refine blk_alloc ?_ _)); refine blk_put (cs := #[.int .i64 2, .string (a0.extract (a1 : Int).toNat (x10_3 : Int).toNat), .int .i64 t243, .int .i64 0]) ?_ 3 _ rfl; (with_reducible repeat (first | refine blk_drewN ?_ _ | refine blk_drew ?_ | refine blk_alloc ?_ _)); refine blk_put (cs := #[.int .i64 2, .string (a0.extract (a1 : Int).toNat (x10_3 : Int).toNat), .int .i64 0, .int .i64 0]) ?_ 2 _ rfl; (with_reducible repeat (first | refine blk_drewN ?_ _ | refine blk_drew ?_ | refine blk_alloc ?_ _)); refine blk_put (cs := #[.int .i64 2, .string (⟨#[]⟩ : ByteArray), .int .i64 0, .int .i64 0]) ?_ 1 _ rfl; (with_reducible repeat (first | refine blk_drewN ?_ _ | refine blk_drew ?_ | refine blk_alloc ?_ _)); refine blk_put (cs := #[.int .i64 0, .string (⟨#[]⟩ : ByteArray), .int .i64 0, .int .i64 0]) ?_ 0 _ rfl; (with_reducible repeat (first | refine blk_drewN ?_ _ | refine blk_drew ?_ | refine blk_alloc ?_ _)); exact BK238.out) Tryd.underlying32 rfl (by kernel_rfl)) rfl ?_
                                      exact ⟨by first | rfl | (simp [errW_none, errW_some] <;> rfl) | (simp [*, errW_none, errW_some] <;> rfl), by repeat (first | (with_reducible first | exact HB.out | apply below_alloc | apply pw_below_drewN | apply below_drew1 | refine below_set ?_ GE238.out) | exact HB.out)⟩
                                    · replace c54 := Bool.eq_false_iff.mpr c54
                                      subst c54
                                      have H1 : (some (0, (⟨#[]⟩ : ByteArray), 0, 0, 0)) = some (r1, r2, r3, r4, r5) := by rw [if_neg (show ¬ (false = true) by decide)] at H; exact H
                                      clear H
                                      have H := H1
                                      clear H1
                                      simp only [Option.some.injEq, Prod.mk.injEq] at H
                                      obtain ⟨rfl, rfl, rfl, rfl, rfl⟩ := H
                                      have p46 : 0 ≤ (x10_3 : Int) := of_decide_eq_true (by first | (with_reducible assumption) | assumption)
                                      have q46 : x10_3 < (a0.size : Int) := of_decide_eq_true (by first | (with_reducible assumption) | assumption)
                                      have hx46 := bt_at a0 x10_3
                                      replace p46 := eq_true p46
                                      replace q46 := eq_true q46
                                      have p48 : 0 ≤ (x10_3 : Int) := of_decide_eq_true (by first | (with_reducible assumption) | assumption)
                                      have q48 : x10_3 < (a0.size : Int) := of_decide_eq_true (by first | (with_reducible assumption) | assumption)
                                      have hx48 := bt_at a0 x10_3
                                      replace p48 := eq_true p48
                                      replace q48 := eq_true q48
                                      go_wp2_with (first | ((with_reducible refine gate_callee (f := 28) rfl ?_); refine goesL_ (some 104) rfl rfl Tryd.func28 (by kernel_rfl) rfl #[.string (a0.extract (a1 : Int).toNat (x10_3 : Int).toNat)] rfl (by (try simp only [List.map_toArray, List.map_cons, List.map_nil]); first | done | rfl | (simp only [List.length_drop, List.length_take]; rfl)) ?_; (with_reducible refine (switchyardref07_digits.calls k3 (a0.extract (a1 : Int).toNat (x10_3 : Int).toNat) t243 false _ A53.out).mono ?_); rintro e w' ⟨rfl, ⟨nd, rfl⟩⟩; refine ⟨_, rfl, ?_⟩; (try (rw [drewN_self wr]; generalize hq_ : World.drewN wr _ = wr; have n0_ : Aside0 (wr.heap[gb238]? = some (.cells #[.int .i64 0, .string (⟨#[]⟩ : ByteArray), .int .i64 0, .int .i64 0] 32 (0, 0))) := ⟨by rw [← hq_]; exact (by (with_reducible repeat (first | refine blk_drewN ?_ _ | refine blk_drew ?_ | refine blk_alloc ?_ _)); exact BK238.out)⟩; have n1_ : Aside0 (Below w.heap.size w wr) := ⟨by rw [← hq_]; exact (by repeat (first | (with_reducible first | exact HB.out | apply below_alloc | apply pw_below_drewN | apply below_drew1 | refine below_set ?_ GE238.out) | exact HB.out))⟩; clear BK238 HB hq_; have BK238 := n0_; have HB := n1_; clear n0_ n1_)); have hcz59_0 : wr.cell? ⟨gb238, 0, none⟩ = some (.int .i64 0) := (blk_cell BK238.out 0).trans rfl; have hcz59_1 : wr.cell? ⟨gb238, 1, none⟩ = some (.string (⟨#[]⟩ : ByteArray)) := (blk_cell BK238.out 1).trans rfl; have hcz59_2 : wr.cell? ⟨gb238, 2, none⟩ = some (.int .i64 0) := (blk_cell BK238.out 2).trans rfl; have hcz59_3 : wr.cell? ⟨gb238, 3, none⟩ = some (.int .i64 0) := (blk_cell BK238.out 3).trans rfl; have hfz59_0 := blk_frozen BK238.out 0; have hfz59_1 := blk_frozen BK238.out 1; have hfz59_2 := blk_frozen BK238.out 2; have hfz59_3 := blk_frozen BK238.out 3))
                                      refine bodyPost_ret (results_ct rfl _ _ gb238 32 #[.int .i64 0, .string (⟨#[]⟩ : ByteArray), .int .i64 0, .int .i64 0] (0, 0) _ rfl (by (with_reducible repeat (first | refine blk_drewN ?_ _ | refine blk_drew ?_ | refine blk_alloc ?_ _)); refine blk_put (cs := #[.int .i64 0, .string (⟨#[]⟩ : ByteArray), .int .i64 0, .int .i64 0]) ?_ 3 _ rfl; (with_reducible repeat (first | refine blk_drewN ?_ _ | refine blk_drew ?_ | refine blk_alloc ?_ _)); refine blk_put (cs := #[.int .i64 0, .string (⟨#[]⟩ : ByteArray), .int .i64 0, .int .i64 0]) ?_ 2 _ rfl; (with_reducible repeat (first | refine blk_drewN ?_ _ | refine blk_drew ?_ | refine blk_alloc ?_ _)); refine blk_put (cs := #[.int .i64 0, .string (⟨#[]⟩ : ByteArray), .int .i64 0, .int .i64 0]) ?_ 1 _ rfl; (with_reducible repeat (first | refine blk_drewN ?_ _ | refine blk_drew ?_ | refine blk_alloc ?_ _)); refine blk_put (cs := #[.int .i64 0, .string (⟨#[]⟩ : ByteArray), .int .i64 0, .int .i64 0]) ?_ 0 _ rfl; (with_reducible repeat (first | refine blk_drewN ?_ _ | refine blk_drew ?_ | refine blk_alloc ?_ _)); exact BK238.out) Tryd.underlying32 rfl (by kernel_rfl)) rfl ?_
                                      exact ⟨by first | rfl | (simp [errW_none, errW_some] <;> rfl) | (simp [*, errW_none, errW_some] <;> rfl), by repeat (first | (with_reducible first | exact HB.out | apply below_alloc | apply pw_below_drewN | apply below_drew1 | refine below_set ?_ GE238.out) | exact HB.out)⟩
                                  · rw [if_neg c52] at H
                                    exact absurd H (by simp)
                                · rw [if_neg c51] at H
                                  exact absurd H (by simp)
                              · rw [if_neg c50] at H
                                exact absurd H (by simp)
                          · rw [if_neg c47] at H
                            have c47b0 : decide (48 ≤ (bt a0 x10_3)) = false := decide_eq_false c47
                            clear c47
                            by_cases c60 : 0 ≤ a1
                            · rw [if_pos c60] at H
                              have c60b0 := eq_true c60
                              have c60b1 : decide (0 ≤ a1) = true := decide_eq_true c60
                              clear c60
                              by_cases c61 : a1 ≤ x10_3
                              · rw [if_pos c61] at H
                                have c61b0 := eq_true c61
                                have c61b1 : decide (a1 ≤ x10_3) = true := decide_eq_true c61
                                clear c61
                                by_cases c62 : x10_3 ≤ (a0.size : Int)
                                · rw [if_pos c62] at H
                                  have c62b0 := eq_true c62
                                  have c62b1 : decide (x10_3 ≤ (a0.size : Int)) = true := decide_eq_true c62
                                  clear c62
                                  replace H := Option.bind_eq_some_iff.mp H
                                  obtain ⟨⟨t245, t246⟩, A630, H⟩ := H
                                  replace H : (if t246 = true then (some (2, a0.extract (a1 : Int).toNat (x10_3 : Int).toNat, t245, a1, wrap64 (x10_3 - a1))) else (some (0, (⟨#[]⟩ : ByteArray), 0, 0, 0))) = some (r1, r2, r3, r4, r5) := H
                                  have A63 := Aside0.mk A630
                                  clear A630
                                  by_cases c64 : t246 = true
                                  · subst c64
                                    have H1 : (some (2, a0.extract (a1 : Int).toNat (x10_3 : Int).toNat, t245, a1, wrap64 (x10_3 - a1))) = some (r1, r2, r3, r4, r5) := by rw [if_pos rfl] at H; exact H
                                    clear H
                                    have H := H1
                                    clear H1
                                    have c65b0 := eq_true (of_decide_eq_true (by first | (with_reducible assumption) | assumption) : 0 ≤ a1)
                                    have c66b0 := eq_true (of_decide_eq_true (by first | (with_reducible assumption) | assumption) : a1 ≤ x10_3)
                                    have c67b0 := eq_true (of_decide_eq_true (by first | (with_reducible assumption) | assumption) : x10_3 ≤ (a0.size : Int))
                                    simp only [Option.some.injEq, Prod.mk.injEq] at H
                                    obtain ⟨rfl, rfl, rfl, rfl, rfl⟩ := H
                                    have p46 : 0 ≤ (x10_3 : Int) := of_decide_eq_true (by first | (with_reducible assumption) | assumption)
                                    have q46 : x10_3 < (a0.size : Int) := of_decide_eq_true (by first | (with_reducible assumption) | assumption)
                                    have hx46 := bt_at a0 x10_3
                                    replace p46 := eq_true p46
                                    replace q46 := eq_true q46
                                    go_wp2_with (first | ((with_reducible refine gate_callee (f := 28) rfl ?_); refine goesL_ (some 104) rfl rfl Tryd.func28 (by kernel_rfl) rfl #[.string (a0.extract (a1 : Int).toNat (x10_3 : Int).toNat)] rfl (by (try simp only [List.map_toArray, List.map_cons, List.map_nil]); first | done | rfl | (simp only [List.length_drop, List.length_take]; rfl)) ?_; (with_reducible refine (switchyardref07_digits.calls k3 (a0.extract (a1 : Int).toNat (x10_3 : Int).toNat) t245 true _ A63.out).mono ?_); rintro e w' ⟨rfl, ⟨nd, rfl⟩⟩; refine ⟨_, rfl, ?_⟩; (try (rw [drewN_self wr]; generalize hq_ : World.drewN wr _ = wr; have n0_ : Aside0 (wr.heap[gb238]? = some (.cells #[.int .i64 0, .string (⟨#[]⟩ : ByteArray), .int .i64 0, .int .i64 0] 32 (0, 0))) := ⟨by rw [← hq_]; exact (by (with_reducible repeat (first | refine blk_drewN ?_ _ | refine blk_drew ?_ | refine blk_alloc ?_ _)); exact BK238.out)⟩; have n1_ : Aside0 (Below w.heap.size w wr) := ⟨by rw [← hq_]; exact (by repeat (first | (with_reducible first | exact HB.out | apply below_alloc | apply pw_below_drewN | apply below_drew1 | refine below_set ?_ GE238.out) | exact HB.out))⟩; clear BK238 HB hq_; have BK238 := n0_; have HB := n1_; clear n0_ n1_)); have hcz68_0 : wr.cell? ⟨gb238, 0, none⟩ = some (.int .i64 0) := (blk_cell BK238.out 0).trans rfl; have hcz68_1 : wr.cell? ⟨gb238, 1, none⟩ = some (.string (⟨#[]⟩ : ByteArray)) := (blk_cell BK238.out 1).trans rfl; have hcz68_2 : wr.cell? ⟨gb238, 2, none⟩ = some (.int .i64 0) := (blk_cell BK238.out 2).trans rfl; have hcz68_3 : wr.cell? ⟨gb238, 3, none⟩ = some (.int .i64 0) := (blk_cell BK238.out 3).trans rfl; have hfz68_0 := blk_frozen BK238.out 0; have hfz68_1 := blk_frozen BK238.out 1; have hfz68_2 := blk_frozen BK238.out 2; have hfz68_3 := blk_frozen BK238.out 3))
                                    refine bodyPost_ret (results_ct rfl _ _ gb238 32 #[.int .i64 2, .string (a0.extract (a1 : Int).toNat (x10_3 : Int).toNat), .int .i64 t245, .int .i64 a1] (0, 0) _ rfl (by (with_reducible repeat (first | refine blk_drewN ?_ _ | refine blk_drew ?_ | refine blk_alloc ?_ _)); refine blk_put (cs := #[.int .i64 2, .string (a0.extract (a1 : Int).toNat (x10_3 : Int).toNat), .int .i64 t245, .int .i64 0]) ?_ 3 _ rfl; (with_reducible repeat (first | refine blk_drewN ?_ _ | refine blk_drew ?_ | refine blk_alloc ?_ _)); refine blk_put (cs := #[.int .i64 2, .string (a0.extract (a1 : Int).toNat (x10_3 : Int).toNat), .int .i64 0, .int .i64 0]) ?_ 2 _ rfl; (with_reducible repeat (first | refine blk_drewN ?_ _ | refine blk_drew ?_ | refine blk_alloc ?_ _)); refine blk_put (cs := #[.int .i64 2, .string (⟨#[]⟩ : ByteArray), .int .i64 0, .int .i64 0]) ?_ 1 _ rfl; (with_reducible repeat (first | refine blk_drewN ?_ _ | refine blk_drew ?_ | refine blk_alloc ?_ _)); refine blk_put (cs := #[.int .i64 0, .string (⟨#[]⟩ : ByteArray), .int .i64 0, .int .i64 0]) ?_ 0 _ rfl; (with_reducible repeat (first | refine blk_drewN ?_ _ | refine blk_drew ?_ | refine blk_alloc ?_ _)); exact BK238.out) Tryd.underlying32 rfl (by kernel_rfl)) rfl ?_
                                    exact ⟨by first | rfl | (simp [errW_none, errW_some] <;> rfl) | (simp [*, errW_none, errW_some] <;> rfl), by repeat (first | (with_reducible first | exact HB.out | apply below_alloc | apply pw_below_drewN | apply below_drew1 | refine below_set ?_ GE238.out) | exact HB.out)⟩
                                  · replace c64 := Bool.eq_false_iff.mpr c64
                                    subst c64
                                    have H1 : (some (0, (⟨#[]⟩ : ByteArray), 0, 0, 0)) = some (r1, r2, r3, r4, r5) := by rw [if_neg (show ¬ (false = true) by decide)] at H; exact H
                                    clear H
                                    have H := H1
                                    clear H1
                                    simp only [Option.some.injEq, Prod.mk.injEq] at H
                                    obtain ⟨rfl, rfl, rfl, rfl, rfl⟩ := H
                                    have p46 : 0 ≤ (x10_3 : Int) := of_decide_eq_true (by first | (with_reducible assumption) | assumption)
                                    have q46 : x10_3 < (a0.size : Int) := of_decide_eq_true (by first | (with_reducible assumption) | assumption)
                                    have hx46 := bt_at a0 x10_3
                                    replace p46 := eq_true p46
                                    replace q46 := eq_true q46
                                    go_wp2_with (first | ((with_reducible refine gate_callee (f := 28) rfl ?_); refine goesL_ (some 104) rfl rfl Tryd.func28 (by kernel_rfl) rfl #[.string (a0.extract (a1 : Int).toNat (x10_3 : Int).toNat)] rfl (by (try simp only [List.map_toArray, List.map_cons, List.map_nil]); first | done | rfl | (simp only [List.length_drop, List.length_take]; rfl)) ?_; (with_reducible refine (switchyardref07_digits.calls k3 (a0.extract (a1 : Int).toNat (x10_3 : Int).toNat) t245 false _ A63.out).mono ?_); rintro e w' ⟨rfl, ⟨nd, rfl⟩⟩; refine ⟨_, rfl, ?_⟩; (try (rw [drewN_self wr]; generalize hq_ : World.drewN wr _ = wr; have n0_ : Aside0 (wr.heap[gb238]? = some (.cells #[.int .i64 0, .string (⟨#[]⟩ : ByteArray), .int .i64 0, .int .i64 0] 32 (0, 0))) := ⟨by rw [← hq_]; exact (by (with_reducible repeat (first | refine blk_drewN ?_ _ | refine blk_drew ?_ | refine blk_alloc ?_ _)); exact BK238.out)⟩; have n1_ : Aside0 (Below w.heap.size w wr) := ⟨by rw [← hq_]; exact (by repeat (first | (with_reducible first | exact HB.out | apply below_alloc | apply pw_below_drewN | apply below_drew1 | refine below_set ?_ GE238.out) | exact HB.out))⟩; clear BK238 HB hq_; have BK238 := n0_; have HB := n1_; clear n0_ n1_)); have hcz69_0 : wr.cell? ⟨gb238, 0, none⟩ = some (.int .i64 0) := (blk_cell BK238.out 0).trans rfl; have hcz69_1 : wr.cell? ⟨gb238, 1, none⟩ = some (.string (⟨#[]⟩ : ByteArray)) := (blk_cell BK238.out 1).trans rfl; have hcz69_2 : wr.cell? ⟨gb238, 2, none⟩ = some (.int .i64 0) := (blk_cell BK238.out 2).trans rfl; have hcz69_3 : wr.cell? ⟨gb238, 3, none⟩ = some (.int .i64 0) := (blk_cell BK238.out 3).trans rfl; have hfz69_0 := blk_frozen BK238.out 0; have hfz69_1 := blk_frozen BK238.out 1; have hfz69_2 := blk_frozen BK238.out 2; have hfz69_3 := blk_frozen BK238.out 3))
                                    refine bodyPost_ret (results_ct rfl _ _ gb238 32 #[.int .i64 0, .string (⟨#[]⟩ : ByteArray), .int .i64 0, .int .i64 0] (0, 0) _ rfl (by (with_reducible repeat (first | refine blk_drewN ?_ _ | refine blk_drew ?_ | refine blk_alloc ?_ _)); refine blk_put (cs := #[.int .i64 0, .string (⟨#[]⟩ : ByteArray), .int .i64 0, .int .i64 0]) ?_ 3 _ rfl; (with_reducible repeat (first | refine blk_drewN ?_ _ | refine blk_drew ?_ | refine blk_alloc ?_ _)); refine blk_put (cs := #[.int .i64 0, .string (⟨#[]⟩ : ByteArray), .int .i64 0, .int .i64 0]) ?_ 2 _ rfl; (with_reducible repeat (first | refine blk_drewN ?_ _ | refine blk_drew ?_ | refine blk_alloc ?_ _)); refine blk_put (cs := #[.int .i64 0, .string (⟨#[]⟩ : ByteArray), .int .i64 0, .int .i64 0]) ?_ 1 _ rfl; (with_reducible repeat (first | refine blk_drewN ?_ _ | refine blk_drew ?_ | refine blk_alloc ?_ _)); refine blk_put (cs := #[.int .i64 0, .string (⟨#[]⟩ : ByteArray), .int .i64 0, .int .i64 0]) ?_ 0 _ rfl; (with_reducible repeat (first | refine blk_drewN ?_ _ | refine blk_drew ?_ | refine blk_alloc ?_ _)); exact BK238.out) Tryd.underlying32 rfl (by kernel_rfl)) rfl ?_
                                    exact ⟨by first | rfl | (simp [errW_none, errW_some] <;> rfl) | (simp [*, errW_none, errW_some] <;> rfl), by repeat (first | (with_reducible first | exact HB.out | apply below_alloc | apply pw_below_drewN | apply below_drew1 | refine below_set ?_ GE238.out) | exact HB.out)⟩
                                · rw [if_neg c62] at H
                                  exact absurd H (by simp)
                              · rw [if_neg c61] at H
                                exact absurd H (by simp)
                            · rw [if_neg c60] at H
                              exact absurd H (by simp)
                        · rw [if_neg c45] at H
                          exact absurd H (by simp)
                      · rw [if_neg c44] at H
                        have c44b0 : decide (x10_3 < (a0.size : Int)) = false := decide_eq_false c44
                        clear c44
                        by_cases c70 : 0 ≤ a1
                        · rw [if_pos c70] at H
                          have c70b0 := eq_true c70
                          have c70b1 : decide (0 ≤ a1) = true := decide_eq_true c70
                          clear c70
                          by_cases c71 : a1 ≤ x10_3
                          · rw [if_pos c71] at H
                            have c71b0 := eq_true c71
                            have c71b1 : decide (a1 ≤ x10_3) = true := decide_eq_true c71
                            clear c71
                            by_cases c72 : x10_3 ≤ (a0.size : Int)
                            · rw [if_pos c72] at H
                              have c72b0 := eq_true c72
                              have c72b1 : decide (x10_3 ≤ (a0.size : Int)) = true := decide_eq_true c72
                              clear c72
                              replace H := Option.bind_eq_some_iff.mp H
                              obtain ⟨⟨t247, t248⟩, A730, H⟩ := H
                              replace H : (if t248 = true then (some (2, a0.extract (a1 : Int).toNat (x10_3 : Int).toNat, t247, a1, wrap64 (x10_3 - a1))) else (some (0, (⟨#[]⟩ : ByteArray), 0, 0, 0))) = some (r1, r2, r3, r4, r5) := H
                              have A73 := Aside0.mk A730
                              clear A730
                              by_cases c74 : t248 = true
                              · subst c74
                                have H1 : (some (2, a0.extract (a1 : Int).toNat (x10_3 : Int).toNat, t247, a1, wrap64 (x10_3 - a1))) = some (r1, r2, r3, r4, r5) := by rw [if_pos rfl] at H; exact H
                                clear H
                                have H := H1
                                clear H1
                                have c75b0 := eq_true (of_decide_eq_true (by first | (with_reducible assumption) | assumption) : 0 ≤ a1)
                                have c76b0 := eq_true (of_decide_eq_true (by first | (with_reducible assumption) | assumption) : a1 ≤ x10_3)
                                have c77b0 := eq_true (of_decide_eq_true (by first | (with_reducible assumption) | assumption) : x10_3 ≤ (a0.size : Int))
                                simp only [Option.some.injEq, Prod.mk.injEq] at H
                                obtain ⟨rfl, rfl, rfl, rfl, rfl⟩ := H
                                go_wp2_with (first | ((with_reducible refine gate_callee (f := 28) rfl ?_); refine goesL_ (some 104) rfl rfl Tryd.func28 (by kernel_rfl) rfl #[.string (a0.extract (a1 : Int).toNat (x10_3 : Int).toNat)] rfl (by (try simp only [List.map_toArray, List.map_cons, List.map_nil]); first | done | rfl | (simp only [List.length_drop, List.length_take]; rfl)) ?_; (with_reducible refine (switchyardref07_digits.calls k3 (a0.extract (a1 : Int).toNat (x10_3 : Int).toNat) t247 true _ A73.out).mono ?_); rintro e w' ⟨rfl, ⟨nd, rfl⟩⟩; refine ⟨_, rfl, ?_⟩; (try (rw [drewN_self wr]; generalize hq_ : World.drewN wr _ = wr; have n0_ : Aside0 (wr.heap[gb238]? = some (.cells #[.int .i64 0, .string (⟨#[]⟩ : ByteArray), .int .i64 0, .int .i64 0] 32 (0, 0))) := ⟨by rw [← hq_]; exact (by (with_reducible repeat (first | refine blk_drewN ?_ _ | refine blk_drew ?_ | refine blk_alloc ?_ _)); exact BK238.out)⟩; have n1_ : Aside0 (Below w.heap.size w wr) := ⟨by rw [← hq_]; exact (by repeat (first | (with_reducible first | exact HB.out | apply below_alloc | apply pw_below_drewN | apply below_drew1 | refine below_set ?_ GE238.out) | exact HB.out))⟩; clear BK238 HB hq_; have BK238 := n0_; have HB := n1_; clear n0_ n1_)); have hcz78_0 : wr.cell? ⟨gb238, 0, none⟩ = some (.int .i64 0) := (blk_cell BK238.out 0).trans rfl; have hcz78_1 : wr.cell? ⟨gb238, 1, none⟩ = some (.string (⟨#[]⟩ : ByteArray)) := (blk_cell BK238.out 1).trans rfl; have hcz78_2 : wr.cell? ⟨gb238, 2, none⟩ = some (.int .i64 0) := (blk_cell BK238.out 2).trans rfl; have hcz78_3 : wr.cell? ⟨gb238, 3, none⟩ = some (.int .i64 0) := (blk_cell BK238.out 3).trans rfl; have hfz78_0 := blk_frozen BK238.out 0; have hfz78_1 := blk_frozen BK238.out 1; have hfz78_2 := blk_frozen BK238.out 2; have hfz78_3 := blk_frozen BK238.out 3))
                                refine bodyPost_ret (results_ct rfl _ _ gb238 32 #[.int .i64 2, .string (a0.extract (a1 : Int).toNat (x10_3 : Int).toNat), .int .i64 t247, .int .i64 a1] (0, 0) _ rfl (by (with_reducible repeat (first | refine blk_drewN ?_ _ | refine blk_drew ?_ | refine blk_alloc ?_ _)); refine blk_put (cs := #[.int .i64 2, .string (a0.extract (a1 : Int).toNat (x10_3 : Int).toNat), .int .i64 t247, .int .i64 0]) ?_ 3 _ rfl; (with_reducible repeat (first | refine blk_drewN ?_ _ | refine blk_drew ?_ | refine blk_alloc ?_ _)); refine blk_put (cs := #[.int .i64 2, .string (a0.extract (a1 : Int).toNat (x10_3 : Int).toNat), .int .i64 0, .int .i64 0]) ?_ 2 _ rfl; (with_reducible repeat (first | refine blk_drewN ?_ _ | refine blk_drew ?_ | refine blk_alloc ?_ _)); refine blk_put (cs := #[.int .i64 2, .string (⟨#[]⟩ : ByteArray), .int .i64 0, .int .i64 0]) ?_ 1 _ rfl; (with_reducible repeat (first | refine blk_drewN ?_ _ | refine blk_drew ?_ | refine blk_alloc ?_ _)); refine blk_put (cs := #[.int .i64 0, .string (⟨#[]⟩ : ByteArray), .int .i64 0, .int .i64 0]) ?_ 0 _ rfl; (with_reducible repeat (first | refine blk_drewN ?_ _ | refine blk_drew ?_ | refine blk_alloc ?_ _)); exact BK238.out) Tryd.underlying32 rfl (by kernel_rfl)) rfl ?_
                                exact ⟨by first | rfl | (simp [errW_none, errW_some] <;> rfl) | (simp [*, errW_none, errW_some] <;> rfl), by repeat (first | (with_reducible first | exact HB.out | apply below_alloc | apply pw_below_drewN | apply below_drew1 | refine below_set ?_ GE238.out) | exact HB.out)⟩
                              · replace c74 := Bool.eq_false_iff.mpr c74
                                subst c74
                                have H1 : (some (0, (⟨#[]⟩ : ByteArray), 0, 0, 0)) = some (r1, r2, r3, r4, r5) := by rw [if_neg (show ¬ (false = true) by decide)] at H; exact H
                                clear H
                                have H := H1
                                clear H1
                                simp only [Option.some.injEq, Prod.mk.injEq] at H
                                obtain ⟨rfl, rfl, rfl, rfl, rfl⟩ := H
                                go_wp2_with (first | ((with_reducible refine gate_callee (f := 28) rfl ?_); refine goesL_ (some 104) rfl rfl Tryd.func28 (by kernel_rfl) rfl #[.string (a0.extract (a1 : Int).toNat (x10_3 : Int).toNat)] rfl (by (try simp only [List.map_toArray, List.map_cons, List.map_nil]); first | done | rfl | (simp only [List.length_drop, List.length_take]; rfl)) ?_; (with_reducible refine (switchyardref07_digits.calls k3 (a0.extract (a1 : Int).toNat (x10_3 : Int).toNat) t247 false _ A73.out).mono ?_); rintro e w' ⟨rfl, ⟨nd, rfl⟩⟩; refine ⟨_, rfl, ?_⟩; (try (rw [drewN_self wr]; generalize hq_ : World.drewN wr _ = wr; have n0_ : Aside0 (wr.heap[gb238]? = some (.cells #[.int .i64 0, .string (⟨#[]⟩ : ByteArray), .int .i64 0, .int .i64 0] 32 (0, 0))) := ⟨by rw [← hq_]; exact (by (with_reducible repeat (first | refine blk_drewN ?_ _ | refine blk_drew ?_ | refine blk_alloc ?_ _)); exact BK238.out)⟩; have n1_ : Aside0 (Below w.heap.size w wr) := ⟨by rw [← hq_]; exact (by repeat (first | (with_reducible first | exact HB.out | apply below_alloc | apply pw_below_drewN | apply below_drew1 | refine below_set ?_ GE238.out) | exact HB.out))⟩; clear BK238 HB hq_; have BK238 := n0_; have HB := n1_; clear n0_ n1_)); have hcz79_0 : wr.cell? ⟨gb238, 0, none⟩ = some (.int .i64 0) := (blk_cell BK238.out 0).trans rfl; have hcz79_1 : wr.cell? ⟨gb238, 1, none⟩ = some (.string (⟨#[]⟩ : ByteArray)) := (blk_cell BK238.out 1).trans rfl; have hcz79_2 : wr.cell? ⟨gb238, 2, none⟩ = some (.int .i64 0) := (blk_cell BK238.out 2).trans rfl; have hcz79_3 : wr.cell? ⟨gb238, 3, none⟩ = some (.int .i64 0) := (blk_cell BK238.out 3).trans rfl; have hfz79_0 := blk_frozen BK238.out 0; have hfz79_1 := blk_frozen BK238.out 1; have hfz79_2 := blk_frozen BK238.out 2; have hfz79_3 := blk_frozen BK238.out 3))
                                refine bodyPost_ret (results_ct rfl _ _ gb238 32 #[.int .i64 0, .string (⟨#[]⟩ : ByteArray), .int .i64 0, .int .i64 0] (0, 0) _ rfl (by (with_reducible repeat (first | refine blk_drewN ?_ _ | refine blk_drew ?_ | refine blk_alloc ?_ _)); refine blk_put (cs := #[.int .i64 0, .string (⟨#[]⟩ : ByteArray), .int .i64 0, .int .i64 0]) ?_ 3 _ rfl; (with_reducible repeat (first | refine blk_drewN ?_ _ | refine blk_drew ?_ | refine blk_alloc ?_ _)); refine blk_put (cs := #[.int .i64 0, .string (⟨#[]⟩ : ByteArray), .int .i64 0, .int .i64 0]) ?_ 2 _ rfl; (with_reducible repeat (first | refine blk_drewN ?_ _ | refine blk_drew ?_ | refine blk_alloc ?_ _)); refine blk_put (cs := #[.int .i64 0, .string (⟨#[]⟩ : ByteArray), .int .i64 0, .int .i64 0]) ?_ 1 _ rfl; (with_reducible repeat (first | refine blk_drewN ?_ _ | refine blk_drew ?_ | refine blk_alloc ?_ _)); refine blk_put (cs := #[.int .i64 0, .string (⟨#[]⟩ : ByteArray), .int .i64 0, .int .i64 0]) ?_ 0 _ rfl; (with_reducible repeat (first | refine blk_drewN ?_ _ | refine blk_drew ?_ | refine blk_alloc ?_ _)); exact BK238.out) Tryd.underlying32 rfl (by kernel_rfl)) rfl ?_
                                exact ⟨by first | rfl | (simp [errW_none, errW_some] <;> rfl) | (simp [*, errW_none, errW_some] <;> rfl), by repeat (first | (with_reducible first | exact HB.out | apply below_alloc | apply pw_below_drewN | apply below_drew1 | refine below_set ?_ GE238.out) | exact HB.out)⟩
                            · rw [if_neg c72] at H
                              exact absurd H (by simp)
                          · rw [if_neg c71] at H
                            exact absurd H (by simp)
                        · rw [if_neg c70] at H
                          exact absurd H (by simp)
                · replace c43 := Bool.eq_false_iff.mpr c43
                  subst c43
                  have H1 : (if (bt a0 a1) = 34 then ((switchyardref07_quoted.f kj40 a0 a1).bind fun t249 => (if t249 = 0 then (some (0, (⟨#[]⟩ : ByteArray), 0, 0, 0)) else (if 0 ≤ a1 then (if a1 ≤ (wrap64 (a1 + t249)) then (if (wrap64 (a1 + t249)) ≤ (a0.size : Int) then ((switchyardref07_said.f kj40 (a0.extract (a1 : Int).toNat ((wrap64 (a1 + t249)) : Int).toNat)).bind fun bt250 => (if bt250.2 = true then (some (3, bt250.1, 0, a1, t249)) else (some (0, (⟨#[]⟩ : ByteArray), 0, 0, 0)))) else (none)) else (none)) else (none)))) else ((switchyardref07_signs.f).bind fun t252 => (switchyardref07_token.l2 kj40 a0 a1 t252 (t252.length : Int) 0))) = some (r1, r2, r3, r4, r5) := by rw [if_neg (show ¬ (false = true) by decide)] at H; exact H
                  clear H
                  have H := H1
                  clear H1
                  by_cases c80 : (bt a0 a1) = 34
                  · rw [if_pos c80] at H
                    have c80b0 : ((bt a0 a1) == 34) = true := beq_iff_eq.mpr c80
                    have c80b1 : ((bt a0 a1) != 34) = false := bne_eq_false_iff_eq.mpr c80
                    clear c80
                    replace H := Option.bind_eq_some_iff.mp H
                    obtain ⟨t249, A810, H⟩ := H
                    replace H : (if t249 = 0 then (some (0, (⟨#[]⟩ : ByteArray), 0, 0, 0)) else (if 0 ≤ a1 then (if a1 ≤ (wrap64 (a1 + t249)) then (if (wrap64 (a1 + t249)) ≤ (a0.size : Int) then ((switchyardref07_said.f kj40 (a0.extract (a1 : Int).toNat ((wrap64 (a1 + t249)) : Int).toNat)).bind fun bt250 => (if bt250.2 = true then (some (3, bt250.1, 0, a1, t249)) else (some (0, (⟨#[]⟩ : ByteArray), 0, 0, 0)))) else (none)) else (none)) else (none))) = some (r1, r2, r3, r4, r5) := H
                    have A81 := Aside0.mk A810
                    clear A810
                    by_cases c82 : t249 = 0
                    · rw [if_pos c82] at H
                      have c82b0 : (t249 == 0) = true := beq_iff_eq.mpr c82
                      have c82b1 : (t249 != 0) = false := bne_eq_false_iff_eq.mpr c82
                      clear c82
                      simp only [Option.some.injEq, Prod.mk.injEq] at H
                      obtain ⟨rfl, rfl, rfl, rfl, rfl⟩ := H
                      go_wp2_with (first | ((with_reducible refine gate_callee (f := 29) rfl ?_); refine goesL_ (some 124) rfl rfl Tryd.func29 (by kernel_rfl) rfl #[.string a0, .int .i64 a1] rfl (by (try simp only [List.map_toArray, List.map_cons, List.map_nil]); first | done | rfl | (simp only [List.length_drop, List.length_take]; rfl)) ?_; (with_reducible refine (switchyardref07_quoted.calls kj40 a0 a1 t249 _ A81.out).mono ?_); rintro e w' ⟨rfl, ⟨nd, rfl⟩⟩; refine ⟨_, rfl, ?_⟩; (try (rw [drewN_self wc]; generalize hq_ : World.drewN wc _ = wc; have n0_ : Aside0 (wc.heap[gb238]? = some (.cells #[.int .i64 0, .string (⟨#[]⟩ : ByteArray), .int .i64 0, .int .i64 0] 32 (0, 0))) := ⟨by rw [← hq_]; exact (by (with_reducible repeat (first | refine blk_drewN ?_ _ | refine blk_drew ?_ | refine blk_alloc ?_ _)); exact BK238.out)⟩; have n1_ : Aside0 (Below w.heap.size w wc) := ⟨by rw [← hq_]; exact (by repeat (first | (with_reducible first | exact HB.out | apply below_alloc | apply pw_below_drewN | apply below_drew1 | refine below_set ?_ GE238.out) | exact HB.out))⟩; clear BK238 HB hq_; have BK238 := n0_; have HB := n1_; clear n0_ n1_)); have hcz83_0 : wc.cell? ⟨gb238, 0, none⟩ = some (.int .i64 0) := (blk_cell BK238.out 0).trans rfl; have hcz83_1 : wc.cell? ⟨gb238, 1, none⟩ = some (.string (⟨#[]⟩ : ByteArray)) := (blk_cell BK238.out 1).trans rfl; have hcz83_2 : wc.cell? ⟨gb238, 2, none⟩ = some (.int .i64 0) := (blk_cell BK238.out 2).trans rfl; have hcz83_3 : wc.cell? ⟨gb238, 3, none⟩ = some (.int .i64 0) := (blk_cell BK238.out 3).trans rfl; have hfz83_0 := blk_frozen BK238.out 0; have hfz83_1 := blk_frozen BK238.out 1; have hfz83_2 := blk_frozen BK238.out 2; have hfz83_3 := blk_frozen BK238.out 3))
                      refine bodyPost_ret (results_ct rfl _ _ gb238 32 #[.int .i64 0, .string (⟨#[]⟩ : ByteArray), .int .i64 0, .int .i64 0] (0, 0) _ rfl (by (with_reducible repeat (first | refine blk_drewN ?_ _ | refine blk_drew ?_ | refine blk_alloc ?_ _)); refine blk_put (cs := #[.int .i64 0, .string (⟨#[]⟩ : ByteArray), .int .i64 0, .int .i64 0]) ?_ 3 _ rfl; (with_reducible repeat (first | refine blk_drewN ?_ _ | refine blk_drew ?_ | refine blk_alloc ?_ _)); refine blk_put (cs := #[.int .i64 0, .string (⟨#[]⟩ : ByteArray), .int .i64 0, .int .i64 0]) ?_ 2 _ rfl; (with_reducible repeat (first | refine blk_drewN ?_ _ | refine blk_drew ?_ | refine blk_alloc ?_ _)); refine blk_put (cs := #[.int .i64 0, .string (⟨#[]⟩ : ByteArray), .int .i64 0, .int .i64 0]) ?_ 1 _ rfl; (with_reducible repeat (first | refine blk_drewN ?_ _ | refine blk_drew ?_ | refine blk_alloc ?_ _)); refine blk_put (cs := #[.int .i64 0, .string (⟨#[]⟩ : ByteArray), .int .i64 0, .int .i64 0]) ?_ 0 _ rfl; (with_reducible repeat (first | refine blk_drewN ?_ _ | refine blk_drew ?_ | refine blk_alloc ?_ _)); exact BK238.out) Tryd.underlying32 rfl (by kernel_rfl)) rfl ?_
                      exact ⟨by first | rfl | (simp [errW_none, errW_some] <;> rfl) | (simp [*, errW_none, errW_some] <;> rfl), by repeat (first | (with_reducible first | exact HB.out | apply below_alloc | apply pw_below_drewN | apply below_drew1 | refine below_set ?_ GE238.out) | exact HB.out)⟩
                    · rw [if_neg c82] at H
                      have c82b0 : (t249 == 0) = false := beq_eq_false_iff_ne.mpr c82
                      have c82b1 : (t249 != 0) = true := bne_iff_ne.mpr c82
                      by_cases c84 : 0 ≤ a1
                      · rw [if_pos c84] at H
                        have c84b0 := eq_true c84
                        have c84b1 : decide (0 ≤ a1) = true := decide_eq_true c84
                        clear c84
                        by_cases c85 : a1 ≤ (wrap64 (a1 + t249))
                        · rw [if_pos c85] at H
                          have c85b0 := eq_true c85
                          have c85b1 : decide (a1 ≤ (wrap64 (a1 + t249))) = true := decide_eq_true c85
                          by_cases c86 : (wrap64 (a1 + t249)) ≤ (a0.size : Int)
                          · rw [if_pos c86] at H
                            have c86b0 := eq_true c86
                            have c86b1 : decide ((wrap64 (a1 + t249)) ≤ (a0.size : Int)) = true := decide_eq_true c86
                            replace H := Option.bind_eq_some_iff.mp H
                            obtain ⟨⟨t250, t251⟩, A870, H⟩ := H
                            replace H : (if t251 = true then (some (3, t250, 0, a1, t249)) else (some (0, (⟨#[]⟩ : ByteArray), 0, 0, 0))) = some (r1, r2, r3, r4, r5) := H
                            have A87 := Aside0.mk A870
                            clear A870
                            by_cases c88 : t251 = true
                            · subst c88
                              have H1 : (some (3, t250, 0, a1, t249)) = some (r1, r2, r3, r4, r5) := by rw [if_pos rfl] at H; exact H
                              clear H
                              have H := H1
                              clear H1
                              simp only [Option.some.injEq, Prod.mk.injEq] at H
                              obtain ⟨rfl, rfl, rfl, rfl, rfl⟩ := H
                              go_wp2_with (first | ((with_reducible refine gate_callee (f := 29) rfl ?_); refine goesL_ (some 124) rfl rfl Tryd.func29 (by kernel_rfl) rfl #[.string a0, .int .i64 a1] rfl (by (try simp only [List.map_toArray, List.map_cons, List.map_nil]); first | done | rfl | (simp only [List.length_drop, List.length_take]; rfl)) ?_; (with_reducible refine (switchyardref07_quoted.calls kj40 a0 a1 t249 _ A81.out).mono ?_); rintro e w' ⟨rfl, ⟨nd, rfl⟩⟩; refine ⟨_, rfl, ?_⟩; (try (rw [drewN_self wc]; generalize hq_ : World.drewN wc _ = wc; have n0_ : Aside0 (wc.heap[gb238]? = some (.cells #[.int .i64 0, .string (⟨#[]⟩ : ByteArray), .int .i64 0, .int .i64 0] 32 (0, 0))) := ⟨by rw [← hq_]; exact (by (with_reducible repeat (first | refine blk_drewN ?_ _ | refine blk_drew ?_ | refine blk_alloc ?_ _)); exact BK238.out)⟩; have n1_ : Aside0 (Below w.heap.size w wc) := ⟨by rw [← hq_]; exact (by repeat (first | (with_reducible first | exact HB.out | apply below_alloc | apply pw_below_drewN | apply below_drew1 | refine below_set ?_ GE238.out) | exact HB.out))⟩; clear BK238 HB hq_; have BK238 := n0_; have HB := n1_; clear n0_ n1_))) | ((with_reducible refine gate_callee (f := 30) rfl ?_); refine goesL_ (some 135) rfl rfl Tryd.func30 (by kernel_rfl) rfl #[.string (a0.extract (a1 : Int).toNat ((wrap64 (a1 + t249)) : Int).toNat)] rfl (by (try simp only [List.map_toArray, List.map_cons, List.map_nil]); first | done | rfl | (simp only [List.length_drop, List.length_take]; rfl)) ?_; (with_reducible refine (switchyardref07_said.calls kj40 (a0.extract (a1 : Int).toNat ((wrap64 (a1 + t249)) : Int).toNat) t250 true _ A87.out).mono ?_); rintro e w89 ⟨rfl, hb⟩; refine ⟨_, rfl, ?_⟩; have n0_ := Aside0.mk (blk_below (g := gb238) (o := .cells #[.int .i64 0, .string (⟨#[]⟩ : ByteArray), .int .i64 0, .int .i64 0] 32 (0, 0)) (by (with_reducible repeat (first | refine blk_drewN ?_ _ | refine blk_drew ?_ | refine blk_alloc ?_ _)); exact BK238.out) hb); have n1_ := Aside0.mk (below_step (by repeat (first | (with_reducible first | exact HB.out | apply below_alloc | apply pw_below_drewN | apply below_drew1 | refine below_set ?_ GE238.out) | exact HB.out)) hb); clear BK238; clear HB; have BK238 := n0_; have HB := n1_; clear n0_ n1_; (try clear hb); (try clear hb2); (try clear hk); (try clear hi); have hcz90_0 : w89.cell? ⟨gb238, 0, none⟩ = some (.int .i64 0) := (blk_cell BK238.out 0).trans rfl; have hcz90_1 : w89.cell? ⟨gb238, 1, none⟩ = some (.string (⟨#[]⟩ : ByteArray)) := (blk_cell BK238.out 1).trans rfl; have hcz90_2 : w89.cell? ⟨gb238, 2, none⟩ = some (.int .i64 0) := (blk_cell BK238.out 2).trans rfl; have hcz90_3 : w89.cell? ⟨gb238, 3, none⟩ = some (.int .i64 0) := (blk_cell BK238.out 3).trans rfl; have hfz90_0 := blk_frozen BK238.out 0; have hfz90_1 := blk_frozen BK238.out 1; have hfz90_2 := blk_frozen BK238.out 2; have hfz90_3 := blk_frozen BK238.out 3))
                              refine bodyPost_ret (results_ct rfl _ _ gb238 32 #[.int .i64 3, .string t250, .int .i64 0, .int .i64 a1] (0, 0) _ rfl (by (with_reducible repeat (first | refine blk_drewN ?_ _ | refine blk_drew ?_ | refine blk_alloc ?_ _)); refine blk_put (cs := #[.int .i64 3, .string t250, .int .i64 0, .int .i64 0]) ?_ 3 _ rfl; (with_reducible repeat (first | refine blk_drewN ?_ _ | refine blk_drew ?_ | refine blk_alloc ?_ _)); refine blk_put (cs := #[.int .i64 3, .string t250, .int .i64 0, .int .i64 0]) ?_ 2 _ rfl; (with_reducible repeat (first | refine blk_drewN ?_ _ | refine blk_drew ?_ | refine blk_alloc ?_ _)); refine blk_put (cs := #[.int .i64 3, .string (⟨#[]⟩ : ByteArray), .int .i64 0, .int .i64 0]) ?_ 1 _ rfl; (with_reducible repeat (first | refine blk_drewN ?_ _ | refine blk_drew ?_ | refine blk_alloc ?_ _)); refine blk_put (cs := #[.int .i64 0, .string (⟨#[]⟩ : ByteArray), .int .i64 0, .int .i64 0]) ?_ 0 _ rfl; (with_reducible repeat (first | refine blk_drewN ?_ _ | refine blk_drew ?_ | refine blk_alloc ?_ _)); exact BK238.out) Tryd.underlying32 rfl (by kernel_rfl)) rfl ?_
                              exact ⟨by first | rfl | (simp [errW_none, errW_some] <;> rfl) | (simp [*, errW_none, errW_some] <;> rfl), by repeat (first | (with_reducible first | exact HB.out | apply below_alloc | apply pw_below_drewN | apply below_drew1 | refine below_set ?_ GE238.out) | exact HB.out)⟩
                            · replace c88 := Bool.eq_false_iff.mpr c88
                              subst c88
                              have H1 : (some (0, (⟨#[]⟩ : ByteArray), 0, 0, 0)) = some (r1, r2, r3, r4, r5) := by rw [if_neg (show ¬ (false = true) by decide)] at H; exact H
                              clear H
                              have H := H1
                              clear H1
                              simp only [Option.some.injEq, Prod.mk.injEq] at H
                              obtain ⟨rfl, rfl, rfl, rfl, rfl⟩ := H
                              go_wp2_with (first | ((with_reducible refine gate_callee (f := 29) rfl ?_); refine goesL_ (some 124) rfl rfl Tryd.func29 (by kernel_rfl) rfl #[.string a0, .int .i64 a1] rfl (by (try simp only [List.map_toArray, List.map_cons, List.map_nil]); first | done | rfl | (simp only [List.length_drop, List.length_take]; rfl)) ?_; (with_reducible refine (switchyardref07_quoted.calls kj40 a0 a1 t249 _ A81.out).mono ?_); rintro e w' ⟨rfl, ⟨nd, rfl⟩⟩; refine ⟨_, rfl, ?_⟩; (try (rw [drewN_self wc]; generalize hq_ : World.drewN wc _ = wc; have n0_ : Aside0 (wc.heap[gb238]? = some (.cells #[.int .i64 0, .string (⟨#[]⟩ : ByteArray), .int .i64 0, .int .i64 0] 32 (0, 0))) := ⟨by rw [← hq_]; exact (by (with_reducible repeat (first | refine blk_drewN ?_ _ | refine blk_drew ?_ | refine blk_alloc ?_ _)); exact BK238.out)⟩; have n1_ : Aside0 (Below w.heap.size w wc) := ⟨by rw [← hq_]; exact (by repeat (first | (with_reducible first | exact HB.out | apply below_alloc | apply pw_below_drewN | apply below_drew1 | refine below_set ?_ GE238.out) | exact HB.out))⟩; clear BK238 HB hq_; have BK238 := n0_; have HB := n1_; clear n0_ n1_))) | ((with_reducible refine gate_callee (f := 30) rfl ?_); refine goesL_ (some 135) rfl rfl Tryd.func30 (by kernel_rfl) rfl #[.string (a0.extract (a1 : Int).toNat ((wrap64 (a1 + t249)) : Int).toNat)] rfl (by (try simp only [List.map_toArray, List.map_cons, List.map_nil]); first | done | rfl | (simp only [List.length_drop, List.length_take]; rfl)) ?_; (with_reducible refine (switchyardref07_said.calls kj40 (a0.extract (a1 : Int).toNat ((wrap64 (a1 + t249)) : Int).toNat) t250 false _ A87.out).mono ?_); rintro e w91 ⟨rfl, hb⟩; refine ⟨_, rfl, ?_⟩; have n0_ := Aside0.mk (blk_below (g := gb238) (o := .cells #[.int .i64 0, .string (⟨#[]⟩ : ByteArray), .int .i64 0, .int .i64 0] 32 (0, 0)) (by (with_reducible repeat (first | refine blk_drewN ?_ _ | refine blk_drew ?_ | refine blk_alloc ?_ _)); exact BK238.out) hb); have n1_ := Aside0.mk (below_step (by repeat (first | (with_reducible first | exact HB.out | apply below_alloc | apply pw_below_drewN | apply below_drew1 | refine below_set ?_ GE238.out) | exact HB.out)) hb); clear BK238; clear HB; have BK238 := n0_; have HB := n1_; clear n0_ n1_; (try clear hb); (try clear hb2); (try clear hk); (try clear hi); have hcz92_0 : w91.cell? ⟨gb238, 0, none⟩ = some (.int .i64 0) := (blk_cell BK238.out 0).trans rfl; have hcz92_1 : w91.cell? ⟨gb238, 1, none⟩ = some (.string (⟨#[]⟩ : ByteArray)) := (blk_cell BK238.out 1).trans rfl; have hcz92_2 : w91.cell? ⟨gb238, 2, none⟩ = some (.int .i64 0) := (blk_cell BK238.out 2).trans rfl; have hcz92_3 : w91.cell? ⟨gb238, 3, none⟩ = some (.int .i64 0) := (blk_cell BK238.out 3).trans rfl; have hfz92_0 := blk_frozen BK238.out 0; have hfz92_1 := blk_frozen BK238.out 1; have hfz92_2 := blk_frozen BK238.out 2; have hfz92_3 := blk_frozen BK238.out 3))
                              refine bodyPost_ret (results_ct rfl _ _ gb238 32 #[.int .i64 0, .string (⟨#[]⟩ : ByteArray), .int .i64 0, .int .i64 0] (0, 0) _ rfl (by (with_reducible repeat (first | refine blk_drewN ?_ _ | refine blk_drew ?_ | refine blk_alloc ?_ _)); refine blk_put (cs := #[.int .i64 0, .string (⟨#[]⟩ : ByteArray), .int .i64 0, .int .i64 0]) ?_ 3 _ rfl; (with_reducible repeat (first | refine blk_drewN ?_ _ | refine blk_drew ?_ | refine blk_alloc ?_ _)); refine blk_put (cs := #[.int .i64 0, .string (⟨#[]⟩ : ByteArray), .int .i64 0, .int .i64 0]) ?_ 2 _ rfl; (with_reducible repeat (first | refine blk_drewN ?_ _ | refine blk_drew ?_ | refine blk_alloc ?_ _)); refine blk_put (cs := #[.int .i64 0, .string (⟨#[]⟩ : ByteArray), .int .i64 0, .int .i64 0]) ?_ 1 _ rfl; (with_reducible repeat (first | refine blk_drewN ?_ _ | refine blk_drew ?_ | refine blk_alloc ?_ _)); refine blk_put (cs := #[.int .i64 0, .string (⟨#[]⟩ : ByteArray), .int .i64 0, .int .i64 0]) ?_ 0 _ rfl; (with_reducible repeat (first | refine blk_drewN ?_ _ | refine blk_drew ?_ | refine blk_alloc ?_ _)); exact BK238.out) Tryd.underlying32 rfl (by kernel_rfl)) rfl ?_
                              exact ⟨by first | rfl | (simp [errW_none, errW_some] <;> rfl) | (simp [*, errW_none, errW_some] <;> rfl), by repeat (first | (with_reducible first | exact HB.out | apply below_alloc | apply pw_below_drewN | apply below_drew1 | refine below_set ?_ GE238.out) | exact HB.out)⟩
                          · rw [if_neg c86] at H
                            exact absurd H (by simp)
                        · rw [if_neg c85] at H
                          exact absurd H (by simp)
                      · rw [if_neg c84] at H
                        exact absurd H (by simp)
                  · rw [if_neg c80] at H
                    have c80b0 : ((bt a0 a1) == 34) = false := beq_eq_false_iff_ne.mpr c80
                    have c80b1 : ((bt a0 a1) != 34) = true := bne_iff_ne.mpr c80
                    replace H := Option.bind_eq_some_iff.mp H
                    obtain ⟨t252, A930, H⟩ := H
                    replace H : (switchyardref07_token.l2 kj40 a0 a1 t252 (t252.length : Int) 0) = some (r1, r2, r3, r4, r5) := H
                    have A93 := Aside0.mk A930
                    clear A930
                    have H' := Aside0.mk H
                    clear H
                    go_wp2_with (first | ((with_reducible refine gate_callee (f := 31) rfl ?_); refine goesL_ (some 145) rfl rfl Tryd.func31 (by kernel_rfl) rfl #[] rfl (by (try simp only [List.map_toArray, List.map_cons, List.map_nil]); first | done | rfl | (simp only [List.length_drop, List.length_take]; rfl)) ?_; (with_reducible refine (switchyardref07_signs.calls  t252 _ A93.out).mono ?_); rintro e w94 ⟨v253, rfl, ho0, hb⟩; refine ⟨_, rfl, ?_⟩; have n0_ := Aside0.mk (Kd.R_lower ho0 (below_size (by repeat (first | (with_reducible first | exact HB.out | apply below_alloc | apply pw_below_drewN | apply below_drew1 | refine below_set ?_ GE238.out) | exact HB.out)))); have n1_ := Aside0.mk (blk_below (g := gb238) (o := .cells #[.int .i64 0, .string (⟨#[]⟩ : ByteArray), .int .i64 0, .int .i64 0] 32 (0, 0)) (by (with_reducible repeat (first | refine blk_drewN ?_ _ | refine blk_drew ?_ | refine blk_alloc ?_ _)); exact BK238.out) hb); have n2_ := Aside0.mk (below_step (by repeat (first | (with_reducible first | exact HB.out | apply below_alloc | apply pw_below_drewN | apply below_drew1 | refine below_set ?_ GE238.out) | exact HB.out)) hb); clear BK238; clear HB; have HO254 := n0_; have BK238 := n1_; have HB := n2_; clear n0_ n1_ n2_; (try clear hb); (try clear hb2); (try clear hk); (try clear hi); (try clear ho0); obtain ⟨Ao95, co95, eo95⟩ := Kd.R_slice HO254.out; subst eo95))
                    go_loopg [147] kj40 (fun kq v147 w' => ∃ (x147_3 : Int) (x239000_3 : Int) (x239001_3 : ByteArray) (x239002_3 : Int) (x239003_3 : Int), v147 = .int .i64 x147_3 ∧ Aside0 (switchyardref07_token.l2 kq a0 a1 t252 (t252.length : Int) x147_3 = some (r1, r2, r3, r4, r5)) ∧ Aside0 (kq ≤ kj40) ∧ Aside0 (Kd.R Kd.string 9 w' w.heap.size (fun _ => True) (.slice Ao95 t252.length co95) t252) ∧ Aside0 (w'.heap[gb238]? = some (.cells #[.int .i64 x239000_3, .string x239001_3, .int .i64 x239002_3, .int .i64 x239003_3] 32 (0, 0))) ∧ Aside0 (Below w.heap.size w w'))
                    case atStart => exact ⟨(0), (0), ((⟨#[]⟩ : ByteArray)), (0), (0), (by first | rfl | (simp; done) | (simp [*]; done)), H', ⟨Nat.le_refl _⟩, ⟨by (with_reducible repeat (first | apply Kd.R_alloc | apply Kd.R_drewN | apply Kd.R_drew)); exact HO254.out⟩, ⟨by (with_reducible repeat (first | refine blk_drewN ?_ _ | refine blk_drew ?_ | refine blk_alloc ?_ _)); exact BK238.out⟩, ⟨by repeat (first | (with_reducible first | exact HB.out | apply below_alloc | apply pw_below_drewN | apply below_drew1 | refine below_set ?_ GE238.out) | exact HB.out)⟩⟩
                    case round =>
                      clear H'
                      try clear c1
                      try clear p1
                      try clear q1
                      try clear hx1
                      try clear c2
                      try clear p2
                      try clear c3
                      try clear c3b0
                      try clear c4
                      try clear c4b0
                      try clear p4
                      try clear q4
                      try clear hx4
                      try clear c5
                      try clear p5
                      try clear q5
                      try clear hx5
                      try clear c6
                      try clear p6
                      try clear c7
                      try clear c8
                      try clear c8b0
                      try clear c8b1
                      try clear c10
                      try clear c11
                      try clear c11b0
                      try clear c12
                      try clear c12b0
                      try clear c13
                      try clear c15
                      try clear c15b0
                      try clear c15b1
                      try clear c16
                      try clear c16b0
                      try clear c17
                      try clear c17b0
                      try clear p18
                      try clear q18
                      try clear hx18
                      try clear c20
                      try clear c21
                      try clear c21b0
                      try clear c21b1
                      try clear c22
                      try clear c22b0
                      try clear c22b1
                      try clear c23
                      try clear c23b0
                      try clear c23b1
                      try clear c25
                      try clear c26
                      try clear c26b0
                      try clear c27
                      try clear c27b0
                      try clear c28
                      try clear c28b0
                      try clear c29
                      try clear c30
                      try clear c31
                      try clear c31b0
                      try clear c31b1
                      try clear c32
                      try clear c32b0
                      try clear c32b1
                      try clear c33
                      try clear c33b0
                      try clear c33b1
                      try clear c35
                      try clear c36
                      try clear c36b0
                      try clear c37
                      try clear c37b0
                      try clear c38
                      try clear c38b0
                      try clear c42
                      try clear c42b0
                      try clear c43
                      try clear c44
                      try clear c44b0
                      try clear c45
                      try clear c45b0
                      try clear p46
                      try clear q46
                      try clear hx46
                      try clear c47
                      try clear c47b0
                      try clear p48
                      try clear q48
                      try clear hx48
                      try clear c49
                      try clear c49b0
                      try clear c50
                      try clear c50b0
                      try clear c50b1
                      try clear c51
                      try clear c51b0
                      try clear c51b1
                      try clear c52
                      try clear c52b0
                      try clear c52b1
                      try clear c54
                      try clear c55
                      try clear c55b0
                      try clear c56
                      try clear c56b0
                      try clear c57
                      try clear c57b0
                      try clear c60
                      try clear c60b0
                      try clear c60b1
                      try clear c61
                      try clear c61b0
                      try clear c61b1
                      try clear c62
                      try clear c62b0
                      try clear c62b1
                      try clear c64
                      try clear p64
                      try clear c65
                      try clear c65b0
                      try clear c66
                      try clear c66b0
                      try clear c67
                      try clear c67b0
                      try clear c70
                      try clear c70b0
                      try clear c70b1
                      try clear c71
                      try clear c71b0
                      try clear c71b1
                      try clear c72
                      try clear c72b0
                      try clear c72b1
                      try clear c74
                      try clear c75
                      try clear c75b0
                      try clear c76
                      try clear c76b0
                      try clear c77
                      try clear c77b0
                      try clear c80
                      try clear c80b0
                      try clear c80b1
                      try clear c82
                      try clear c82b0
                      try clear c82b1
                      try clear c84
                      try clear c84b0
                      try clear c84b1
                      try clear c85
                      try clear c85b0
                      try clear c85b1
                      try clear c86
                      try clear c86b0
                      try clear c86b1
                      try clear c88
                      try clear hcz29_0
                      try clear hcz29_1
                      try clear hcz29_2
                      try clear hcz29_3
                      try clear hcz30_0
                      try clear hcz30_1
                      try clear hcz30_2
                      try clear hcz30_3
                      try clear hcz39_0
                      try clear hcz39_1
                      try clear hcz39_2
                      try clear hcz39_3
                      try clear hcz40_0
                      try clear hcz40_1
                      try clear hcz40_2
                      try clear hcz40_3
                      try clear hcz58_0
                      try clear hcz58_1
                      try clear hcz58_2
                      try clear hcz58_3
                      try clear hcz59_0
                      try clear hcz59_1
                      try clear hcz59_2
                      try clear hcz59_3
                      try clear hcz68_0
                      try clear hcz68_1
                      try clear hcz68_2
                      try clear hcz68_3
                      try clear hcz69_0
                      try clear hcz69_1
                      try clear hcz69_2
                      try clear hcz69_3
                      try clear hcz78_0
                      try clear hcz78_1
                      try clear hcz78_2
                      try clear hcz78_3
                      try clear hcz79_0
                      try clear hcz79_1
                      try clear hcz79_2
                      try clear hcz79_3
                      try clear hcz83_0
                      try clear hcz83_1
                      try clear hcz83_2
                      try clear hcz83_3
                      try clear hcz90_0
                      try clear hcz90_1
                      try clear hcz90_2
                      try clear hcz90_3
                      try clear hcz92_0
                      try clear hcz92_1
                      try clear hcz92_2
                      try clear hcz92_3
                      try clear hfz29_0
                      try clear hfz29_1
                      try clear hfz29_2
                      try clear hfz29_3
                      try clear hfz30_0
                      try clear hfz30_1
                      try clear hfz30_2
                      try clear hfz30_3
                      try clear hfz39_0
                      try clear hfz39_1
                      try clear hfz39_2
                      try clear hfz39_3
                      try clear hfz40_0
                      try clear hfz40_1
                      try clear hfz40_2
                      try clear hfz40_3
                      try clear hfz58_0
                      try clear hfz58_1
                      try clear hfz58_2
                      try clear hfz58_3
                      try clear hfz59_0
                      try clear hfz59_1
                      try clear hfz59_2
                      try clear hfz59_3
                      try clear hfz68_0
                      try clear hfz68_1
                      try clear hfz68_2
                      try clear hfz68_3
                      try clear hfz69_0
                      try clear hfz69_1
                      try clear hfz69_2
                      try clear hfz69_3
                      try clear hfz78_0
                      try clear hfz78_1
                      try clear hfz78_2
                      try clear hfz78_3
                      try clear hfz79_0
                      try clear hfz79_1
                      try clear hfz79_2
                      try clear hfz79_3
                      try clear hfz83_0
                      try clear hfz83_1
                      try clear hfz83_2
                      try clear hfz83_3
                      try clear hfz90_0
                      try clear hfz90_1
                      try clear hfz90_2
                      try clear hfz90_3
                      try clear hfz92_0
                      try clear hfz92_1
                      try clear hfz92_2
                      try clear hfz92_3
                      try clear p1
                      try clear p18
                      try clear p2
                      try clear p46
                      try clear p48
                      try clear p5
                      try clear p6
                      try clear q1
                      try clear q18
                      try clear q46
                      try clear q48
                      try clear q5
                      obtain ⟨x147_3, x239000_3, x239001_3, x239002_3, x239003_3, rfl, HA, HK3, HO_145, BK238, HB⟩ := hrel
                      cases gk with
                      | zero => exact absurd HA.out (by simp [switchyardref07_token.l2])
                      | succ k3 =>
                        have H := HA.out
                        clear HA
                        simp only [switchyardref07_token.l2] at H
                        by_cases c96 : x147_3 < (t252.length : Int)
                        · rw [if_pos c96] at H
                          have c96b0 : decide (x147_3 < (t252.length : Int)) = true := decide_eq_true c96
                          clear c96
                          by_cases c97 : 0 ≤ x147_3
                          · rw [if_pos c97] at H
                            have c97b0 : decide (0 ≤ x147_3) = true := decide_eq_true c97
                            clear c97
                            by_cases c98 : x147_3 < (t252.length : Int)
                            · rw [if_pos c98] at H
                              have c98b0 : decide (x147_3 < (t252.length : Int)) = true := decide_eq_true c98
                              clear c98
                              by_cases c99 : (wrap64 (a1 + ((rdOf ByteArray.empty t252 x147_3).size : Int))) ≤ (a0.size : Int)
                              · rw [if_pos c99] at H
                                have c99b0 : decide ((wrap64 (a1 + ((rdOf ByteArray.empty t252 x147_3).size : Int))) ≤ (a0.size : Int)) = true := decide_eq_true c99
                                clear c99
                                by_cases c100 : 0 ≤ a1
                                · rw [if_pos c100] at H
                                  have c100b0 := eq_true c100
                                  have c100b1 : decide (0 ≤ a1) = true := decide_eq_true c100
                                  clear c100
                                  by_cases c101 : a1 ≤ (wrap64 (a1 + ((rdOf ByteArray.empty t252 x147_3).size : Int)))
                                  · rw [if_pos c101] at H
                                    have c101b0 := eq_true c101
                                    have c101b1 : decide (a1 ≤ (wrap64 (a1 + ((rdOf ByteArray.empty t252 x147_3).size : Int)))) = true := decide_eq_true c101
                                    have c102b0 := eq_true (of_decide_eq_true (by first | (with_reducible assumption) | assumption) : (wrap64 (a1 + ((rdOf ByteArray.empty t252 x147_3).size : Int))) ≤ (a0.size : Int))
                                    by_cases c103 : (a0.extract (a1 : Int).toNat ((wrap64 (a1 + ((rdOf ByteArray.empty t252 x147_3).size : Int))) : Int).toNat).toList = (rdOf ByteArray.empty t252 x147_3).toList
                                    · rw [if_pos c103] at H
                                      have c103b0 : ((a0.extract (a1 : Int).toNat ((wrap64 (a1 + ((rdOf ByteArray.empty t252 x147_3).size : Int))) : Int).toNat).toList == (rdOf ByteArray.empty t252 x147_3).toList) = true := beq_iff_eq.mpr c103
                                      have c103b1 : ((a0.extract (a1 : Int).toNat ((wrap64 (a1 + ((rdOf ByteArray.empty t252 x147_3).size : Int))) : Int).toNat).toList != (rdOf ByteArray.empty t252 x147_3).toList) = false := bne_eq_false_iff_eq.mpr c103
                                      clear c103
                                      simp only [Option.some.injEq, Prod.mk.injEq] at H
                                      obtain ⟨rfl, rfl, rfl, rfl, rfl⟩ := H
                                      have p255 : 0 ≤ (x147_3 : Int) := of_decide_eq_true (by first | (with_reducible assumption) | assumption)
                                      have q255 : x147_3 < (t252.length : Int) := of_decide_eq_true (by first | (with_reducible assumption) | assumption)
                                      obtain ⟨ad255, e255, hx255_0⟩ := Kd.at_string (Kd.R_reads' HO_145.out).2.2 x147_3 p255 q255
                                      cases e255
                                      replace p255 := eq_true p255
                                      replace q255 := eq_true q255
                                      have hcz104_0 : wr.cell? ⟨gb238, 0, none⟩ = some (.int .i64 x239000_3) := (blk_cell BK238.out 0).trans rfl
                                      have hcz104_1 : wr.cell? ⟨gb238, 1, none⟩ = some (.string x239001_3) := (blk_cell BK238.out 1).trans rfl
                                      have hcz104_2 : wr.cell? ⟨gb238, 2, none⟩ = some (.int .i64 x239002_3) := (blk_cell BK238.out 2).trans rfl
                                      have hcz104_3 : wr.cell? ⟨gb238, 3, none⟩ = some (.int .i64 x239003_3) := (blk_cell BK238.out 3).trans rfl
                                      have hfz104_0 := blk_frozen BK238.out 0
                                      have hfz104_1 := blk_frozen BK238.out 1
                                      have hfz104_2 := blk_frozen BK238.out 2
                                      have hfz104_3 := blk_frozen BK238.out 3
                                      go_wp2
                                      refine bodyPost_ret (results_ct rfl _ _ gb238 32 #[.int .i64 5, .string (rdOf ByteArray.empty t252 x147_3), .int .i64 0, .int .i64 a1] (0, 0) _ rfl (by (with_reducible repeat (first | refine blk_drewN ?_ _ | refine blk_drew ?_ | refine blk_alloc ?_ _)); refine blk_put (cs := #[.int .i64 5, .string (rdOf ByteArray.empty t252 x147_3), .int .i64 0, .int .i64 x239003_3]) ?_ 3 _ rfl; (with_reducible repeat (first | refine blk_drewN ?_ _ | refine blk_drew ?_ | refine blk_alloc ?_ _)); refine blk_put (cs := #[.int .i64 5, .string (rdOf ByteArray.empty t252 x147_3), .int .i64 x239002_3, .int .i64 x239003_3]) ?_ 2 _ rfl; (with_reducible repeat (first | refine blk_drewN ?_ _ | refine blk_drew ?_ | refine blk_alloc ?_ _)); refine blk_put (cs := #[.int .i64 5, .string x239001_3, .int .i64 x239002_3, .int .i64 x239003_3]) ?_ 1 _ rfl; (with_reducible repeat (first | refine blk_drewN ?_ _ | refine blk_drew ?_ | refine blk_alloc ?_ _)); refine blk_put (cs := #[.int .i64 x239000_3, .string x239001_3, .int .i64 x239002_3, .int .i64 x239003_3]) ?_ 0 _ rfl; (with_reducible repeat (first | refine blk_drewN ?_ _ | refine blk_drew ?_ | refine blk_alloc ?_ _)); exact BK238.out) Tryd.underlying32 rfl (by kernel_rfl)) rfl ?_
                                      exact ⟨by first | rfl | (simp [errW_none, errW_some] <;> rfl) | (simp [*, errW_none, errW_some] <;> rfl), by repeat (first | (with_reducible first | exact HB.out | apply below_alloc | apply pw_below_drewN | apply below_drew1 | refine below_set ?_ GE238.out) | exact HB.out)⟩
                                    · rw [if_neg c103] at H
                                      have c103b0 : ((a0.extract (a1 : Int).toNat ((wrap64 (a1 + ((rdOf ByteArray.empty t252 x147_3).size : Int))) : Int).toNat).toList == (rdOf ByteArray.empty t252 x147_3).toList) = false := beq_eq_false_iff_ne.mpr c103
                                      have c103b1 : ((a0.extract (a1 : Int).toNat ((wrap64 (a1 + ((rdOf ByteArray.empty t252 x147_3).size : Int))) : Int).toNat).toList != (rdOf ByteArray.empty t252 x147_3).toList) = true := bne_iff_ne.mpr c103
                                      have H' := Aside0.mk H
                                      clear H
                                      have p255 : 0 ≤ (x147_3 : Int) := of_decide_eq_true (by first | (with_reducible assumption) | assumption)
                                      have q255 : x147_3 < (t252.length : Int) := of_decide_eq_true (by first | (with_reducible assumption) | assumption)
                                      obtain ⟨ad255, e255, hx255_0⟩ := Kd.at_string (Kd.R_reads' HO_145.out).2.2 x147_3 p255 q255
                                      cases e255
                                      replace p255 := eq_true p255
                                      replace q255 := eq_true q255
                                      go_wp2
                                      go_roundg k3
                                      case measure => have := HJ5.out; have := HJ40.out; have := HK3.out; omega
                                      case rel => exact ⟨(wrap64 (x147_3 + 1)), (x239000_3), (x239001_3), (x239002_3), (x239003_3), (by first | rfl | (simp; done) | (simp [*]; done)), H', ⟨by have := HJ5.out; have := HJ40.out; have := HK3.out; omega⟩, ⟨by (with_reducible repeat (first | apply Kd.R_alloc | apply Kd.R_drewN | apply Kd.R_drew)); exact HO_145.out⟩, ⟨by (with_reducible repeat (first | refine blk_drewN ?_ _ | refine blk_drew ?_ | refine blk_alloc ?_ _)); exact BK238.out⟩, ⟨by repeat (first | (with_reducible first | exact HB.out | apply below_alloc | apply pw_below_drewN | apply below_drew1 | refine below_set ?_ GE238.out) | exact HB.out)⟩⟩
                                  · rw [if_neg c101] at H
                                    exact absurd H (by simp)
                                · rw [if_neg c100] at H
                                  exact absurd H (by simp)
                              · rw [if_neg c99] at H
                                have c99b0 : decide ((wrap64 (a1 + ((rdOf ByteArray.empty t252 x147_3).size : Int))) ≤ (a0.size : Int)) = false := decide_eq_false c99
                                clear c99
                                have H' := Aside0.mk H
                                clear H
                                have p255 : 0 ≤ (x147_3 : Int) := of_decide_eq_true (by first | (with_reducible assumption) | assumption)
                                have q255 : x147_3 < (t252.length : Int) := of_decide_eq_true (by first | (with_reducible assumption) | assumption)
                                obtain ⟨ad255, e255, hx255_0⟩ := Kd.at_string (Kd.R_reads' HO_145.out).2.2 x147_3 p255 q255
                                cases e255
                                replace p255 := eq_true p255
                                replace q255 := eq_true q255
                                go_wp2
                                go_roundg k3
                                case measure => have := HJ5.out; have := HJ40.out; have := HK3.out; omega
                                case rel => exact ⟨(wrap64 (x147_3 + 1)), (x239000_3), (x239001_3), (x239002_3), (x239003_3), (by first | rfl | (simp; done) | (simp [*]; done)), H', ⟨by have := HJ5.out; have := HJ40.out; have := HK3.out; omega⟩, ⟨by (with_reducible repeat (first | apply Kd.R_alloc | apply Kd.R_drewN | apply Kd.R_drew)); exact HO_145.out⟩, ⟨by (with_reducible repeat (first | refine blk_drewN ?_ _ | refine blk_drew ?_ | refine blk_alloc ?_ _)); exact BK238.out⟩, ⟨by repeat (first | (with_reducible first | exact HB.out | apply below_alloc | apply pw_below_drewN | apply below_drew1 | refine below_set ?_ GE238.out) | exact HB.out)⟩⟩
                            · rw [if_neg c98] at H
                              exact absurd H (by simp)
                          · rw [if_neg c97] at H
                            exact absurd H (by simp)
                        · rw [if_neg c96] at H
                          have c96b0 : decide (x147_3 < (t252.length : Int)) = false := decide_eq_false c96
                          clear c96
                          simp only [Option.some.injEq, Prod.mk.injEq] at H
                          obtain ⟨rfl, rfl, rfl, rfl, rfl⟩ := H
                          have hcz105_0 : wr.cell? ⟨gb238, 0, none⟩ = some (.int .i64 x239000_3) := (blk_cell BK238.out 0).trans rfl
                          have hcz105_1 : wr.cell? ⟨gb238, 1, none⟩ = some (.string x239001_3) := (blk_cell BK238.out 1).trans rfl
                          have hcz105_2 : wr.cell? ⟨gb238, 2, none⟩ = some (.int .i64 x239002_3) := (blk_cell BK238.out 2).trans rfl
                          have hcz105_3 : wr.cell? ⟨gb238, 3, none⟩ = some (.int .i64 x239003_3) := (blk_cell BK238.out 3).trans rfl
                          have hfz105_0 := blk_frozen BK238.out 0
                          have hfz105_1 := blk_frozen BK238.out 1
                          have hfz105_2 := blk_frozen BK238.out 2
                          have hfz105_3 := blk_frozen BK238.out 3
                          go_wp2
                          refine bodyPost_ret (results_ct rfl _ _ gb238 32 #[.int .i64 0, .string (⟨#[]⟩ : ByteArray), .int .i64 0, .int .i64 0] (0, 0) _ rfl (by (with_reducible repeat (first | refine blk_drewN ?_ _ | refine blk_drew ?_ | refine blk_alloc ?_ _)); refine blk_put (cs := #[.int .i64 0, .string (⟨#[]⟩ : ByteArray), .int .i64 0, .int .i64 x239003_3]) ?_ 3 _ rfl; (with_reducible repeat (first | refine blk_drewN ?_ _ | refine blk_drew ?_ | refine blk_alloc ?_ _)); refine blk_put (cs := #[.int .i64 0, .string (⟨#[]⟩ : ByteArray), .int .i64 x239002_3, .int .i64 x239003_3]) ?_ 2 _ rfl; (with_reducible repeat (first | refine blk_drewN ?_ _ | refine blk_drew ?_ | refine blk_alloc ?_ _)); refine blk_put (cs := #[.int .i64 0, .string x239001_3, .int .i64 x239002_3, .int .i64 x239003_3]) ?_ 1 _ rfl; (with_reducible repeat (first | refine blk_drewN ?_ _ | refine blk_drew ?_ | refine blk_alloc ?_ _)); refine blk_put (cs := #[.int .i64 x239000_3, .string x239001_3, .int .i64 x239002_3, .int .i64 x239003_3]) ?_ 0 _ rfl; (with_reducible repeat (first | refine blk_drewN ?_ _ | refine blk_drew ?_ | refine blk_alloc ?_ _)); exact BK238.out) Tryd.underlying32 rfl (by kernel_rfl)) rfl ?_
                          exact ⟨by first | rfl | (simp [errW_none, errW_some] <;> rfl) | (simp [*, errW_none, errW_some] <;> rfl), by repeat (first | (with_reducible first | exact HB.out | apply below_alloc | apply pw_below_drewN | apply below_drew1 | refine below_set ?_ GE238.out) | exact HB.out)⟩
    · rw [if_neg c4] at H
      exact absurd H (by simp)
  · rw [if_neg c3] at H
    exact absurd H (by simp)
end Go.Proofs.YtdjcechogbcdnaaDoor.XL
namespace Go.Proofs.YtdjcechogbcdnaaDoor.XL
open Go.RowKit Go.Proofs.YtdjcechogbcdnaaDoorW.PrintWords Go.Proofs.YtdjcechogbcdnaaDoorW.PrintLast Go.Proofs.YtdjcechogbcdnaaDoorW.PrintMore
attribute [local go_sem] max2_int min2_int max_two min_two max_three min_three max_four min_four   -- for this text's walks alone
set_option linter.unusedVariables false
set_option linter.unusedSimpArgs false
attribute [local go_sem high] eqA32
def switchyardref07_Scan.l0 : Nat → ByteArray → List (S32) → Int → Option ((List (S32)) × Int × Int)
  | 0, _, _, _ => none
  | k + 1, x0, x5, x6 => if x6 < (x0.size : Int) then ((switchyardref07_token.f k x0 x6).bind fun bt260 => (if bt260.2.2.2.2 = 0 then (some (([] : List (S32)), x6, 24)) else (if x5.length < 3518437208883 then ((switchyardref07_Blanks.f k x0 (wrap64 (x6 + bt260.2.2.2.2))).bind fun t269 => (switchyardref07_Scan.l0 k x0 (x5 ++ [(⟨bt260.1, bt260.2.1, bt260.2.2.1, bt260.2.2.2.1⟩ : S32)]) (wrap64 ((wrap64 (x6 + bt260.2.2.2.2)) + t269)))) else (none)))) else (if x5.length < 3518437208883 then (some ((x5 ++ [(⟨0, (⟨#[]⟩ : ByteArray), 0, x6⟩ : S32)]), 0, 0)) else (none))
def switchyardref07_Scan.f (k : Nat) (a0 : ByteArray) : Option ((List (S32)) × Int × Int) := if (a0.size : Int) > 8000 then (some (([] : List (S32)), 0, 5)) else ((switchyardref07_Blanks.f k a0 0).bind fun t256 => (switchyardref07_Scan.l0 k a0 ([] : List (S32)) t256))
set_option maxHeartbeats 4000000 in
set_option maxRecDepth 100000 in
theorem switchyardref07_Scan.calls (k : Nat) (a0 : ByteArray) (r1 : List (S32)) (r2 : Int) (r3 : Int) (w : World) (h : switchyardref07_Scan.f k a0 = some (r1, r2, r3)) :
    Calls Tryd.prog 9 #[.string a0] w fun e w' => ∃ v0_ : Value, e = .returned (.tuple #[v0_, .int .i64 r2, .int .i64 r3]) ∧ Kd.R k32 32 w' w.heap.size (fun _ => True) v0_ r1 ∧ Below w.heap.size w w' := by
  have hu32 := Tryd.underlying32
  have HB := Aside0.mk (Below.refl w.heap.size w)
  have H : (if (a0.size : Int) > 8000 then (some (([] : List (S32)), 0, 5)) else ((switchyardref07_Blanks.f k a0 0).bind fun t256 => (switchyardref07_Scan.l0 k a0 ([] : List (S32)) t256))) = some (r1, r2, r3) := h
  clear h
  by_cases c2 : (a0.size : Int) > 8000
  · rw [if_pos c2] at H
    have c2b0 : decide (8000 < (a0.size : Int)) = true := decide_eq_true c2
    have c2b1 : decide (8000 < a0.size) = true := decide_eq_true (by omega)
    clear c2
    simp only [Option.some.injEq, Prod.mk.injEq] at H
    obtain ⟨rfl, rfl, rfl⟩ := H
    go_enter Tryd.func9, Tryd.ntmps9
    go_wp2
    go_ret3
    exact ⟨_, by first | rfl | (simp [errW_none, errW_some] <;> rfl) | (simp [*, errW_none, errW_some] <;> rfl), by first | exact Kd.R_nil _ _ _ _ _ | exact Kd.N_nil _ _ _ _ _ | exact Kd.V_nil _ _ _ _ _ | exact Kd.Q_nil _ _ _ _ _ | exact Kd.S_nil _ _ _ _ _, by repeat (first | (with_reducible first | exact HB.out | apply below_alloc | apply pw_below_drewN | apply below_drew1) | exact HB.out)⟩
  · rw [if_neg c2] at H
    have c2b0 : decide (8000 < (a0.size : Int)) = false := decide_eq_false c2
    have c2b1 : decide (8000 < a0.size) = false := decide_eq_false (by omega)
    clear c2
    replace H := Option.bind_eq_some_iff.mp H
    obtain ⟨t256, A30, H⟩ := H
    replace H : (switchyardref07_Scan.l0 k a0 ([] : List (S32)) t256) = some (r1, r2, r3) := H
    have A3 := Aside0.mk A30
    clear A30
    have H' := Aside0.mk H
    clear H
    go_enter Tryd.func9, Tryd.ntmps9
    go_wp2_with (first | ((with_reducible refine gate_callee (f := 14) rfl ?_); refine goesL_ (some 13) rfl rfl Tryd.func14 (by kernel_rfl) rfl #[.string a0, .int .i64 0] rfl (by (try simp only [List.map_toArray, List.map_cons, List.map_nil]); first | done | rfl | (simp only [List.length_drop, List.length_take]; rfl)) ?_; (with_reducible refine (switchyardref07_Blanks.calls k a0 0 t256 _ A3.out).mono ?_); rintro e w' ⟨rfl, ⟨nd, rfl⟩⟩; refine ⟨_, rfl, ?_⟩))
    go_loopg [5, 6] k (fun kq v5 v6 w' => ∃ (x5_1 : List (S32)) (x6_1 : Int), v6 = .int .i64 x6_1 ∧ Aside0 (switchyardref07_Scan.l0 kq a0 x5_1 x6_1 = some (r1, r2, r3)) ∧ Aside0 (kq ≤ k) ∧ Aside0 (Kd.R k32 32 w' w.heap.size (fun _ => True) v5 x5_1) ∧ Aside0 (Below w.heap.size w w'))
    case atStart => exact ⟨(([] : List (S32))), (t256), (by first | rfl | (simp; done) | (simp [*]; done)), H', ⟨Nat.le_refl _⟩, ⟨by first | exact Kd.R_nil _ _ _ _ _ | exact Kd.N_nil _ _ _ _ _ | exact Kd.V_nil _ _ _ _ _ | exact Kd.Q_nil _ _ _ _ _ | exact Kd.S_nil _ _ _ _ _⟩, ⟨by repeat (first | (with_reducible first | exact HB.out | apply below_alloc | apply pw_below_drewN | apply below_drew1) | exact HB.out)⟩⟩
    case round =>
      clear H'
      try clear c1
      try clear c2
      try clear c2b0
      try clear c2b1
      try clear p2
      obtain ⟨x5_1, x6_1, rfl, HA, HK1, HO_5, HB⟩ := hrel
      cases gk with
      | zero => exact absurd HA.out (by simp [switchyardref07_Scan.l0])
      | succ k1 =>
        have H := HA.out
        clear HA
        simp only [switchyardref07_Scan.l0] at H
        by_cases c4 : x6_1 < (a0.size : Int)
        · rw [if_pos c4] at H
          have c4b0 : decide (x6_1 < (a0.size : Int)) = true := decide_eq_true c4
          clear c4
          replace H := Option.bind_eq_some_iff.mp H
          obtain ⟨⟨t260, t261, t262, t263, t264⟩, A50, H⟩ := H
          replace H : (if t264 = 0 then (some (([] : List (S32)), x6_1, 24)) else (if x5_1.length < 3518437208883 then ((switchyardref07_Blanks.f k1 a0 (wrap64 (x6_1 + t264))).bind fun t269 => (switchyardref07_Scan.l0 k1 a0 (x5_1 ++ [(⟨t260, t261, t262, t263⟩ : S32)]) (wrap64 ((wrap64 (x6_1 + t264)) + t269)))) else (none))) = some (r1, r2, r3) := H
          have A5 := Aside0.mk A50
          clear A50
          by_cases c6 : t264 = 0
          · rw [if_pos c6] at H
            have c6b0 : (t264 == 0) = true := beq_iff_eq.mpr c6
            have c6b1 : (t264 != 0) = false := bne_eq_false_iff_eq.mpr c6
            clear c6
            simp only [Option.some.injEq, Prod.mk.injEq] at H
            obtain ⟨rfl, rfl, rfl⟩ := H
            go_wp2_with (first | ((with_reducible refine gate_callee (f := 15) rfl ?_); refine goesL_ (some 21) rfl rfl Tryd.func15 (by kernel_rfl) rfl #[.string a0, .int .i64 x6_1] rfl (by (try simp only [List.map_toArray, List.map_cons, List.map_nil]); first | done | rfl | (simp only [List.length_drop, List.length_take]; rfl)) ?_; (with_reducible refine (switchyardref07_token.calls k1 a0 x6_1 t260 t261 t262 t263 t264 _ A5.out).mono ?_); rintro e w7 ⟨rfl, hb⟩; refine ⟨_, rfl, ?_⟩; have n0_ := Aside0.mk (Kd.R_below (by (with_reducible repeat (first | apply Kd.R_alloc | apply Kd.R_drewN | apply Kd.R_drew)); exact HO_5.out) hb); have n1_ := Aside0.mk (below_step (by repeat (first | (with_reducible first | exact HB.out | apply below_alloc | apply pw_below_drewN | apply below_drew1) | exact HB.out)) hb); clear HO_5; clear HB; have HO_5 := n0_; have HB := n1_; clear n0_ n1_; (try clear hb); (try clear hb2); (try clear hk); (try clear hi)) | ((with_reducible refine gate_dst (N := 7) rfl ?_); refine box_event ?hg (N := 7) ?hd (cs := #[.int .i64 0, .string (⟨#[]⟩ : ByteArray), .int .i64 0, .int .i64 0]) (t := 32) ?hr ?_; (case hd => rfl); (case hg => rfl); (case hr => first | (go_simp; done) | (go_simp; rfl)); intro gb265 hg w8 hbox hb; have n0_ := Aside0.mk (Kd.R_below (Kd.R_elderB (by (with_reducible repeat (first | apply Kd.R_alloc | apply Kd.R_drewN | apply Kd.R_drew)); exact HO_5.out) gb265 (Nat.le_of_eq hg.symm)) hb); have n1_ := Aside0.mk (below_step (by repeat (first | (with_reducible first | exact HB.out | apply below_alloc | apply pw_below_drewN | apply below_drew1) | exact HB.out)) hb); have n2_ := Aside0.mk (hbox); have n3_ := Aside0.mk ((by rw [hg]; exact (below_size (by repeat (first | (with_reducible first | exact HB.out | apply below_alloc | apply pw_below_drewN | apply below_drew1) | exact HB.out))) : w.heap.size ≤ gb265)); have n4_ := Aside0.mk ((by rw [hg]; exact (below_size (by repeat (first | (with_reducible first | exact HB.out | apply below_alloc | apply pw_below_drewN | apply below_drew1) | exact HB.out))) : w.heap.size ≤ gb265)); clear HO_5; clear HB; have HO_5 := n0_; have HB := n1_; have BK265 := n2_; have GW265 := n3_; have GE265 := n4_; clear n0_ n1_ n2_ n3_ n4_; clear hb hbox hg; have hcz9_0 : w8.cell? ⟨gb265, 0, none⟩ = some (.int .i64 0) := (blk_cell BK265.out 0).trans rfl; have hcz9_1 : w8.cell? ⟨gb265, 1, none⟩ = some (.string (⟨#[]⟩ : ByteArray)) := (blk_cell BK265.out 1).trans rfl; have hcz9_2 : w8.cell? ⟨gb265, 2, none⟩ = some (.int .i64 0) := (blk_cell BK265.out 2).trans rfl; have hcz9_3 : w8.cell? ⟨gb265, 3, none⟩ = some (.int .i64 0) := (blk_cell BK265.out 3).trans rfl; have hfz9_0 := blk_frozen BK265.out 0; have hfz9_1 := blk_frozen BK265.out 1; have hfz9_2 := blk_frozen BK265.out 2; have hfz9_3 := blk_frozen BK265.out 3))
            go_ret3
            exact ⟨_, by first | rfl | (simp [errW_none, errW_some] <;> rfl) | (simp [*, errW_none, errW_some] <;> rfl), by first | exact Kd.R_nil _ _ _ _ _ | exact Kd.N_nil _ _ _ _ _ | exact Kd.V_nil _ _ _ _ _ | exact Kd.Q_nil _ _ _ _ _ | exact Kd.S_nil _ _ _ _ _, by repeat (first | (with_reducible first | exact HB.out | apply below_alloc | apply pw_below_drewN | apply below_drew1 | refine below_set ?_ GE265.out) | exact HB.out)⟩
          · rw [if_neg c6] at H
            have c6b0 : (t264 == 0) = false := beq_eq_false_iff_ne.mpr c6
            have c6b1 : (t264 != 0) = true := bne_iff_ne.mpr c6
            by_cases c10 : x5_1.length < 3518437208883
            · rw [if_pos c10] at H
              have LMc10 := Aside0.mk c10
              clear c10
              obtain ⟨y266, hy266⟩ : ∃ y_ : List (S32), y_ = (x5_1 ++ [(⟨t260, t261, t262, t263⟩ : S32)]) := ⟨_, rfl⟩
              replace H : ((switchyardref07_Blanks.f k1 a0 (wrap64 (x6_1 + t264))).bind fun t269 => (switchyardref07_Scan.l0 k1 a0 y266 (wrap64 ((wrap64 (x6_1 + t264)) + t269)))) = some (r1, r2, r3) := by first | (rw [hy266]; with_reducible exact H) | (have H2_ := (Option.bind_some _ _).symm.trans H; rw [hy266]; with_reducible exact H2_) | (have H2_ := (Option.bind_some _ _).symm.trans H; with_reducible exact H2_) | with_reducible exact H | (rw [hy266]; exact H) | exact H
              have Ny266 := Aside0.mk hy266
              clear hy266
              replace H := Option.bind_eq_some_iff.mp H
              obtain ⟨t269, A110, H⟩ := H
              replace H : (switchyardref07_Scan.l0 k1 a0 y266 (wrap64 ((wrap64 (x6_1 + t264)) + t269))) = some (r1, r2, r3) := H
              have A11 := Aside0.mk A110
              clear A110
              have H' := Aside0.mk H
              clear H
              go_wp2_with (first | ((with_reducible refine gate_callee (f := 15) rfl ?_); refine goesL_ (some 21) rfl rfl Tryd.func15 (by kernel_rfl) rfl #[.string a0, .int .i64 x6_1] rfl (by (try simp only [List.map_toArray, List.map_cons, List.map_nil]); first | done | rfl | (simp only [List.length_drop, List.length_take]; rfl)) ?_; (with_reducible refine (switchyardref07_token.calls k1 a0 x6_1 t260 t261 t262 t263 t264 _ A5.out).mono ?_); rintro e w12 ⟨rfl, hb⟩; refine ⟨_, rfl, ?_⟩; have n0_ := Aside0.mk (Kd.R_below (by (with_reducible repeat (first | apply Kd.R_alloc | apply Kd.R_drewN | apply Kd.R_drew)); exact HO_5.out) hb); have n1_ := Aside0.mk (below_step (by repeat (first | (with_reducible first | exact HB.out | apply below_alloc | apply pw_below_drewN | apply below_drew1) | exact HB.out)) hb); clear HO_5; clear HB; have HO_5 := n0_; have HB := n1_; clear n0_ n1_; (try clear hb); (try clear hb2); (try clear hk); (try clear hi)) | ((with_reducible refine gate_dst (N := 7) rfl ?_); refine box_event ?hg (N := 7) ?hd (cs := #[.int .i64 0, .string (⟨#[]⟩ : ByteArray), .int .i64 0, .int .i64 0]) (t := 32) ?hr ?_; (case hd => rfl); (case hg => rfl); (case hr => first | (go_simp; done) | (go_simp; rfl)); intro gb265 hg w13 hbox hb; have n0_ := Aside0.mk (Kd.R_below (Kd.R_elderB (by (with_reducible repeat (first | apply Kd.R_alloc | apply Kd.R_drewN | apply Kd.R_drew)); exact HO_5.out) gb265 (Nat.le_of_eq hg.symm)) hb); have n1_ := Aside0.mk (below_step (by repeat (first | (with_reducible first | exact HB.out | apply below_alloc | apply pw_below_drewN | apply below_drew1) | exact HB.out)) hb); have n2_ := Aside0.mk (hbox); have n3_ := Aside0.mk ((by rw [hg]; exact (below_size (by repeat (first | (with_reducible first | exact HB.out | apply below_alloc | apply pw_below_drewN | apply below_drew1) | exact HB.out))) : w.heap.size ≤ gb265)); have n4_ := Aside0.mk ((by rw [hg]; exact (below_size (by repeat (first | (with_reducible first | exact HB.out | apply below_alloc | apply pw_below_drewN | apply below_drew1) | exact HB.out))) : w.heap.size ≤ gb265)); clear HO_5; clear HB; have HO_5 := n0_; have HB := n1_; have BK265 := n2_; have GW265 := n3_; have GE265 := n4_; clear n0_ n1_ n2_ n3_ n4_; clear hb hbox hg; have hcz14_0 : w13.cell? ⟨gb265, 0, none⟩ = some (.int .i64 0) := (blk_cell BK265.out 0).trans rfl; have hcz14_1 : w13.cell? ⟨gb265, 1, none⟩ = some (.string (⟨#[]⟩ : ByteArray)) := (blk_cell BK265.out 1).trans rfl; have hcz14_2 : w13.cell? ⟨gb265, 2, none⟩ = some (.int .i64 0) := (blk_cell BK265.out 2).trans rfl; have hcz14_3 : w13.cell? ⟨gb265, 3, none⟩ = some (.int .i64 0) := (blk_cell BK265.out 3).trans rfl; have hfz14_0 := blk_frozen BK265.out 0; have hfz14_1 := blk_frozen BK265.out 1; have hfz14_2 := blk_frozen BK265.out 2; have hfz14_3 := blk_frozen BK265.out 3) | ((with_reducible refine gate_builtin (b := .append) (xs := #[.tmp 27, .tmp 29]) rfl ?_); at_builtin; refine Kd.R_append k32 (w0 := w) w.heap.size rfl (.tmp 27) (.tmp 29) 23 32 (.agg #[(.int .i64 0), (.string ⟨#[]⟩), (.int .i64 0), (.int .i64 0)]) 40 rfl Tryd.underlying23 info32 rfl (by decide) (by omega) u5 x5_1 (⟨t260, t261, t262, t263⟩ : S32) [.int .i64 t260, .string t261, .int .i64 t262, .int .i64 t263] (fun k_ => k_ ≠ gb265) (fun _ => False) rfl (by first | (go_simp; done) | (go_simp; rfl)) ?aP (fun _ hk => hk.elim) ?aF ?aO ?aB ?aS ?aL ?_; (case aP => exact k32_mkM _ _ _ (⟨t260, t261, t262, t263⟩ : S32)); (case aB => exact (by repeat (first | (with_reducible first | exact HB.out | apply below_alloc | apply pw_below_drewN | apply below_drew1 | refine below_set ?_ GE265.out) | exact HB.out))); (case aF => exact (fun k_ hk => Kd.freshB (g := gb265) (o := .cells #[.int .i64 t260, .string t261, .int .i64 t262, .int .i64 t263] 32 (0, 0)) (by (with_reducible repeat (first | refine blk_drewN ?_ _ | refine blk_drew ?_ | refine blk_alloc ?_ _)); refine blk_put (cs := #[.int .i64 t260, .string t261, .int .i64 t262, .int .i64 0]) ?_ 3 _ rfl; (with_reducible repeat (first | refine blk_drewN ?_ _ | refine blk_drew ?_ | refine blk_alloc ?_ _)); refine blk_put (cs := #[.int .i64 t260, .string t261, .int .i64 0, .int .i64 0]) ?_ 2 _ rfl; (with_reducible repeat (first | refine blk_drewN ?_ _ | refine blk_drew ?_ | refine blk_alloc ?_ _)); refine blk_put (cs := #[.int .i64 t260, .string (⟨#[]⟩ : ByteArray), .int .i64 0, .int .i64 0]) ?_ 1 _ rfl; (with_reducible repeat (first | refine blk_drewN ?_ _ | refine blk_drew ?_ | refine blk_alloc ?_ _)); refine blk_put (cs := #[.int .i64 0, .string (⟨#[]⟩ : ByteArray), .int .i64 0, .int .i64 0]) ?_ 0 _ rfl; (with_reducible repeat (first | refine blk_drewN ?_ _ | refine blk_drew ?_ | refine blk_alloc ?_ _)); exact BK265.out) k_ hk)); (case aO => exact (by (with_reducible repeat (first | apply Kd.R_alloc | apply Kd.R_drewN | apply Kd.R_drew)); exact Kd.R_mono (Kd.R_far (p := ⟨gb265, 3, none⟩) (Kd.R_far (p := ⟨gb265, 2, none⟩) (Kd.R_far (p := ⟨gb265, 1, none⟩) (Kd.R_far (p := ⟨gb265, 0, none⟩) (Kd.R_mono HO_5.out (fun k_ hk => (⟨hk, hk.2⟩ : _ ∧ k_ ≠ gb265))) (fun _ hk => hk.2) (.int .i64 t260)) (fun _ hk => hk.2) (.string t261)) (fun _ hk => hk.2) (.int .i64 t262)) (fun _ hk => hk.2) (.int .i64 t263)) (fun _ hk => hk.1.2))); (case aS => exact (below_size (by repeat (first | (with_reducible first | exact HB.out | apply below_alloc | apply pw_below_drewN | apply below_drew1 | refine below_set ?_ GE265.out) | exact HB.out)))); (case aL => have := LMc10.out; omega); intro v267 w15 ho hb hg hat; rw [← Ny266.out] at ho; have n0_ := Aside0.mk (blk_grown (g := gb265) (o := .cells #[.int .i64 t260, .string t261, .int .i64 t262, .int .i64 t263] 32 (0, 0)) (by (with_reducible repeat (first | refine blk_drewN ?_ _ | refine blk_drew ?_ | refine blk_alloc ?_ _)); refine blk_put (cs := #[.int .i64 t260, .string t261, .int .i64 t262, .int .i64 0]) ?_ 3 _ rfl; (with_reducible repeat (first | refine blk_drewN ?_ _ | refine blk_drew ?_ | refine blk_alloc ?_ _)); refine blk_put (cs := #[.int .i64 t260, .string t261, .int .i64 0, .int .i64 0]) ?_ 2 _ rfl; (with_reducible repeat (first | refine blk_drewN ?_ _ | refine blk_drew ?_ | refine blk_alloc ?_ _)); refine blk_put (cs := #[.int .i64 t260, .string (⟨#[]⟩ : ByteArray), .int .i64 0, .int .i64 0]) ?_ 1 _ rfl; (with_reducible repeat (first | refine blk_drewN ?_ _ | refine blk_drew ?_ | refine blk_alloc ?_ _)); refine blk_put (cs := #[.int .i64 0, .string (⟨#[]⟩ : ByteArray), .int .i64 0, .int .i64 0]) ?_ 0 _ rfl; (with_reducible repeat (first | refine blk_drewN ?_ _ | refine blk_drew ?_ | refine blk_alloc ?_ _)); exact BK265.out) hg (Kd.R_away HO_5.out (fun _ hk => hk.2))); have n1_ := Aside0.mk (hb); have n2_ := Aside0.mk (ho); clear BK265; clear HB; clear HO_5; have BK265 := n0_; have HB := n1_; have HO268 := n2_; clear n0_ n1_ n2_; clear ho hb hg hat) | ((with_reducible refine gate_callee (f := 14) rfl ?_); refine goesL_ (some 37) rfl rfl Tryd.func14 (by kernel_rfl) rfl #[.string a0, .int .i64 (wrap64 (x6_1 + t264))] rfl (by (try simp only [List.map_toArray, List.map_cons, List.map_nil]); first | done | rfl | (simp only [List.length_drop, List.length_take]; rfl)) ?_; (with_reducible refine (switchyardref07_Blanks.calls k1 a0 (wrap64 (x6_1 + t264)) t269 _ A11.out).mono ?_); rintro e w' ⟨rfl, ⟨nd, rfl⟩⟩; refine ⟨_, rfl, ?_⟩))
              go_roundg k1
              case measure => have := HK1.out; omega
              case rel => exact ⟨(y266), (wrap64 ((wrap64 (x6_1 + t264)) + t269)), (by first | rfl | (simp; done) | (simp [*]; done)), H', ⟨by have := HK1.out; omega⟩, ⟨by (with_reducible repeat (first | apply Kd.R_alloc | apply Kd.R_drewN | apply Kd.R_drew)); exact Kd.R_mono HO268.out (fun _ hk => trivial)⟩, ⟨by repeat (first | (with_reducible first | exact HB.out | apply below_alloc | apply pw_below_drewN | apply below_drew1 | refine below_set ?_ GE265.out) | exact HB.out)⟩⟩
            · rw [if_neg c10] at H
              exact absurd H (by simp)
        · rw [if_neg c4] at H
          have c4b0 : decide (x6_1 < (a0.size : Int)) = false := decide_eq_false c4
          clear c4
          by_cases c16 : x5_1.length < 3518437208883
          · rw [if_pos c16] at H
            have LMc16 := Aside0.mk c16
            clear c16
            obtain ⟨y257, hy257⟩ : ∃ y_ : List (S32), y_ = (x5_1 ++ [(⟨0, (⟨#[]⟩ : ByteArray), 0, x6_1⟩ : S32)]) := ⟨_, rfl⟩
            replace H : (some (y257, 0, 0)) = some (r1, r2, r3) := by first | (rw [hy257]; with_reducible exact H) | (have H2_ := (Option.bind_some _ _).symm.trans H; rw [hy257]; with_reducible exact H2_) | (have H2_ := (Option.bind_some _ _).symm.trans H; with_reducible exact H2_) | with_reducible exact H | (rw [hy257]; exact H) | exact H
            have Ny257 := Aside0.mk hy257
            clear hy257
            simp only [Option.some.injEq, Prod.mk.injEq] at H
            obtain ⟨rfl, rfl, rfl⟩ := H
            go_wp2_with (first | ((with_reducible refine gate_builtin (b := .append) (xs := #[.tmp 39, .tmp 42]) rfl ?_); at_builtin; refine Kd.R_append k32 (w0 := w) w.heap.size rfl (.tmp 39) (.tmp 42) 23 32 (.agg #[(.int .i64 0), (.string ⟨#[]⟩), (.int .i64 0), (.int .i64 0)]) 40 rfl Tryd.underlying23 info32 rfl (by decide) (by omega) u5 x5_1 (⟨0, (⟨#[]⟩ : ByteArray), 0, x6_1⟩ : S32) [.int .i64 0, .string (⟨#[]⟩ : ByteArray), .int .i64 0, .int .i64 x6_1] (fun _ => True) (fun _ => False) rfl rfl ?aP (fun _ hk => hk.elim) ?aF ?aO ?aB ?aS ?aL ?_; (case aP => exact k32_mkM _ _ _ (⟨0, (⟨#[]⟩ : ByteArray), 0, x6_1⟩ : S32)); (case aB => exact (by repeat (first | (with_reducible first | exact HB.out | apply below_alloc | apply pw_below_drewN | apply below_drew1) | exact HB.out))); (case aF => exact (fun _ _ => trivial)); (case aO => exact (by (with_reducible repeat (first | apply Kd.R_alloc | apply Kd.R_drewN | apply Kd.R_drew)); exact HO_5.out)); (case aS => exact (below_size (by repeat (first | (with_reducible first | exact HB.out | apply below_alloc | apply pw_below_drewN | apply below_drew1) | exact HB.out)))); (case aL => have := LMc16.out; omega); intro v258 w17 ho hb hg hat; rw [← Ny257.out] at ho; have n0_ := Aside0.mk (hb); have n1_ := Aside0.mk (ho); clear HB; clear HO_5; have HB := n0_; have HO259 := n1_; clear n0_ n1_; clear ho hb hg hat))
            go_ret3
            exact ⟨_, by first | rfl | (simp [errW_none, errW_some] <;> rfl) | (simp [*, errW_none, errW_some] <;> rfl), by (with_reducible repeat (first | apply Kd.R_alloc | apply Kd.R_drewN | apply Kd.R_drew)); exact HO259.out, by repeat (first | (with_reducible first | exact HB.out | apply below_alloc | apply pw_below_drewN | apply below_drew1) | exact HB.out)⟩
          · rw [if_neg c16] at H
            exact absurd H (by simp)
def switchyardref07_Same.l0 : Nat → List (S32) → List (S32) → Int → Int → Option (Bool)
  | 0, _, _, _, _ => none
  | k + 1, x0, x1, x12, x13 => if x13 < x12 then (if 0 ≤ x13 then (if x13 < (x0.length : Int) then (if x13 < (x1.length : Int) then (if (!(((rd_T32 x0 x13).f0) == ((rd_T32 x1 x13).f0)) || (!((((rd_T32 x0 x13).f1).toList) == (((rd_T32 x1 x13).f1).toList)) || (!(((rd_T32 x0 x13).f2) == ((rd_T32 x1 x13).f2)) || (!(((rd_T32 x0 x13).f3) == ((rd_T32 x1 x13).f3)))))) = true then (some false) else (switchyardref07_Same.l0 k x0 x1 x12 (wrap64 (x13 + 1)))) else (none)) else (none)) else (none)) else (some true)
def switchyardref07_Same.f (k : Nat) (l0 : List (S32)) (l1 : List (S32)) : Option (Bool) := if (l0.length : Int) = (l1.length : Int) then (switchyardref07_Same.l0 k l0 l1 (l0.length : Int) 0) else (some false)
set_option maxHeartbeats 4000000 in
set_option maxRecDepth 100000 in
theorem switchyardref07_Same.calls (k : Nat) (A0 : Option Addr) (c0 : Nat) (l0 : List (S32)) (A1 : Option Addr) (c1 : Nat) (l1 : List (S32)) (r : Bool) (w : World) (hr0 : Kd.C k32 w A0 l0.length l0) (hc0 : l0.length ≤ c0) (hr1 : Kd.C k32 w A1 l1.length l1) (hc1 : l1.length ≤ c1) (h : switchyardref07_Same.f k l0 l1 = some r) :
    Calls Tryd.prog 10 #[.slice A0 l0.length c0, .slice A1 l1.length c1] w fun e w' => e = .returned (.bool r) ∧ Drawn0 w w' := by
  have hu32 := Tryd.underlying32
  have HR0 := Aside0.mk hr0
  have HC0 := Aside0.mk hc0
  clear hr0 hc0
  have HR1 := Aside0.mk hr1
  have HC1 := Aside0.mk hc1
  clear hr1 hc1
  have H : (if (l0.length : Int) = (l1.length : Int) then (switchyardref07_Same.l0 k l0 l1 (l0.length : Int) 0) else (some false)) = some r := h
  clear h
  by_cases c3 : (l0.length : Int) = (l1.length : Int)
  · rw [if_pos c3] at H
    have c3b0 : ((l0.length : Int) == (l1.length : Int)) = true := beq_iff_eq.mpr c3
    have c3b1 : ((l0.length : Int) != (l1.length : Int)) = false := bne_eq_false_iff_eq.mpr c3
    have c3b2 : (l0.length == l1.length) = true := by first | simpa using c3 | (simp at c3 ⊢; omega)
    clear c3
    have H' := Aside0.mk H
    clear H
    go_enter Tryd.func10, Tryd.ntmps10
    go_wp2
    repeat (go_quiet (fail); try go_wp2)
    go_loopg [13] k (fun kq v13 w' => ∃ (x13_1 : Int), v13 = .int .i64 x13_1 ∧ Aside0 (switchyardref07_Same.l0 kq l0 l1 (l0.length : Int) x13_1 = some r) ∧ Aside0 (kq ≤ k) ∧ Drawn0 w w')
    case atStart => exact ⟨(0), (by first | rfl | (simp; done) | (simp [*]; done)), H', ⟨Nat.le_refl _⟩, by repeat (first | exact Drawn0.refl _ | apply Drawn0.step)⟩
    case round =>
      clear H'
      try clear c1
      try clear p2
      try clear c3
      try clear c3b0
      try clear c3b1
      try clear c3b2
      obtain ⟨x13_1, rfl, HA, HK1, ⟨m1, rfl⟩⟩ := hrel
      cases gk with
      | zero => exact absurd HA.out (by simp [switchyardref07_Same.l0])
      | succ k1 =>
        have H := HA.out
        clear HA
        simp only [switchyardref07_Same.l0] at H
        by_cases c4 : x13_1 < (l0.length : Int)
        · rw [if_pos c4] at H
          have c4b0 : decide (x13_1 < (l0.length : Int)) = true := decide_eq_true c4
          clear c4
          by_cases c5 : 0 ≤ x13_1
          · rw [if_pos c5] at H
            have c5b0 : decide (0 ≤ x13_1) = true := decide_eq_true c5
            clear c5
            by_cases c6 : x13_1 < (l0.length : Int)
            · rw [if_pos c6] at H
              have c6b0 : decide (x13_1 < (l0.length : Int)) = true := decide_eq_true c6
              clear c6
              by_cases c7 : x13_1 < (l1.length : Int)
              · rw [if_pos c7] at H
                have c7b0 : decide (x13_1 < (l1.length : Int)) = true := decide_eq_true c7
                clear c7
                by_cases c8 : (!(((rd_T32 l0 x13_1).f0) == ((rd_T32 l1 x13_1).f0)) || (!((((rd_T32 l0 x13_1).f1).toList) == (((rd_T32 l1 x13_1).f1).toList)) || (!(((rd_T32 l0 x13_1).f2) == ((rd_T32 l1 x13_1).f2)) || (!(((rd_T32 l0 x13_1).f3) == ((rd_T32 l1 x13_1).f3)))))) = true
                · rw [if_pos c8] at H
                  have c8b0 : (!(((rd_T32 l0 x13_1).f0) == ((rd_T32 l1 x13_1).f0)) || (!((((rd_T32 l0 x13_1).f1).toList) == (((rd_T32 l1 x13_1).f1).toList)) || (!(((rd_T32 l0 x13_1).f2) == ((rd_T32 l1 x13_1).f2)) || (!(((rd_T32 l0 x13_1).f3) == ((rd_T32 l1 x13_1).f3)))))) = true := c8
                  clear c8
                  obtain rfl := Option.some.inj H
                  have p270 : 0 ≤ (x13_1 : Int) := of_decide_eq_true (by first | (with_reducible assumption) | assumption)
                  have q270 : x13_1 < (l0.length : Int) := of_decide_eq_true (by first | (with_reducible assumption) | assumption)
                  obtain ⟨ad270, e270, hx270_0, hx270_1, hx270_2, hx270_3⟩ := at_T32 HR0.out x13_1 p270 q270
                  cases e270
                  replace p270 := eq_true p270
                  replace q270 := eq_true q270
                  have p271 : 0 ≤ (x13_1 : Int) := of_decide_eq_true (by first | (with_reducible assumption) | assumption)
                  have q271 : x13_1 < (l1.length : Int) := of_decide_eq_true (by first | (with_reducible assumption) | assumption)
                  obtain ⟨ad271, e271, hx271_0, hx271_1, hx271_2, hx271_3⟩ := at_T32 HR1.out x13_1 p271 q271
                  cases e271
                  replace p271 := eq_true p271
                  replace q271 := eq_true q271
                  go_wp2
                  repeat (go_quiet (fail); try go_wp2)
                  go_ret
                  exact ⟨by first | rfl | (simp; done) | (simp [*]; done), by repeat (first | exact Drawn0.refl _ | apply Drawn0.step)⟩
                · rw [if_neg c8] at H
                  have c8b0 : (!(((rd_T32 l0 x13_1).f0) == ((rd_T32 l1 x13_1).f0)) || (!((((rd_T32 l0 x13_1).f1).toList) == (((rd_T32 l1 x13_1).f1).toList)) || (!(((rd_T32 l0 x13_1).f2) == ((rd_T32 l1 x13_1).f2)) || (!(((rd_T32 l0 x13_1).f3) == ((rd_T32 l1 x13_1).f3)))))) = false := by simpa using c8
                  clear c8
                  have H' := Aside0.mk H
                  clear H
                  have p270 : 0 ≤ (x13_1 : Int) := of_decide_eq_true (by first | (with_reducible assumption) | assumption)
                  have q270 : x13_1 < (l0.length : Int) := of_decide_eq_true (by first | (with_reducible assumption) | assumption)
                  obtain ⟨ad270, e270, hx270_0, hx270_1, hx270_2, hx270_3⟩ := at_T32 HR0.out x13_1 p270 q270
                  cases e270
                  replace p270 := eq_true p270
                  replace q270 := eq_true q270
                  have p271 : 0 ≤ (x13_1 : Int) := of_decide_eq_true (by first | (with_reducible assumption) | assumption)
                  have q271 : x13_1 < (l1.length : Int) := of_decide_eq_true (by first | (with_reducible assumption) | assumption)
                  obtain ⟨ad271, e271, hx271_0, hx271_1, hx271_2, hx271_3⟩ := at_T32 HR1.out x13_1 p271 q271
                  cases e271
                  replace p271 := eq_true p271
                  replace q271 := eq_true q271
                  go_wp2
                  repeat (go_quiet (fail); try go_wp2)
                  go_roundg k1
                  case measure => have := HK1.out; omega
                  case rel => exact ⟨(wrap64 (x13_1 + 1)), (by first | rfl | (simp; done) | (simp [*]; done)), H', ⟨by have := HK1.out; omega⟩, by repeat (first | exact Drawn0.refl _ | apply Drawn0.step)⟩
              · rw [if_neg c7] at H
                exact absurd H (by simp)
            · rw [if_neg c6] at H
              exact absurd H (by simp)
          · rw [if_neg c5] at H
            exact absurd H (by simp)
        · rw [if_neg c4] at H
          have c4b0 : decide (x13_1 < (l0.length : Int)) = false := decide_eq_false c4
          clear c4
          obtain rfl := Option.some.inj H
          go_wp2
          repeat (go_quiet (fail); try go_wp2)
          go_ret
          exact ⟨by first | rfl | (simp; done) | (simp [*]; done), by repeat (first | exact Drawn0.refl _ | apply Drawn0.step)⟩
  · rw [if_neg c3] at H
    have c3b0 : ((l0.length : Int) == (l1.length : Int)) = false := beq_eq_false_iff_ne.mpr c3
    have c3b1 : ((l0.length : Int) != (l1.length : Int)) = true := bne_iff_ne.mpr c3
    have c3b2 : (l0.length == l1.length) = false := by first | simpa using c3 | (simp at c3 ⊢; omega)
    obtain rfl := Option.some.inj H
    go_enter Tryd.func10, Tryd.ntmps10
    go_wp2
    repeat (go_quiet (fail); try go_wp2)
    go_ret
    exact ⟨by first | rfl | (simp; done) | (simp [*]; done), by repeat (first | exact Drawn0.refl _ | apply Drawn0.step)⟩
end Go.Proofs.YtdjcechogbcdnaaDoor.XL
