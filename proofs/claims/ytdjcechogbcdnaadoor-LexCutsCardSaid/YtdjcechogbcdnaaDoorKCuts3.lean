/- switchyard/switchyardlaw07.LexCuts: for every input the law answers true, and its arguments read as before; the listed library tables are tied to the program's text by the given tie. Conditions: none but the card's own. -/
import Derived.Test.YtdjcechogbcdnaaDoorKCuts2
import Derived.SizedLaws
import Derived.ChangeArms
import Derived.DataReads
import Derived.Lib.LaidU8
import Derived.Lib.LaidTab
import Derived.MakeChecks
import Derived.LaidLaws
import Derived.Stop.LaidErr
import Derived.Test.YtdjcechogbcdnaaDoorRows
import Derived.Test.YtdjcechogbcdnaaDoorCards
import Derived.Test.YtdjcechogbcdnaaDoorTie
import Derived.WalkKit
import Derived.ProofKit
import Derived.OpenShut
import Derived.ShutString
import Derived.ChangeOld
import Derived.Below
import Derived.LaidMore
import Derived.Stop.Joined
import Derived.SevenTiedAt
namespace Go.Proofs.YtdjcechogbcdnaaDoor.XL
open Go.RowKit Go.Proofs.YtdjcechogbcdnaaDoorW.PrintWords Go.Proofs.YtdjcechogbcdnaaDoorW.PrintLast Go.Proofs.YtdjcechogbcdnaaDoorW.PrintMore
set_option linter.unusedVariables false
set_option linter.unusedSimpArgs false
theorem tokL_cons (c : UInt8) (r : List UInt8) : tokL (c :: r) = if letC c = true then wordTk 1 ((c :: r).takeWhile wordC) ((c :: r).takeWhile wordC).length
    else if digC c = true then numTk ((c :: r).takeWhile digC)
    else if c = 34 then textTk (c :: r)
    else if c = 39 then wordTk 4 (r.takeWhile wordC) (1 + (r.takeWhile wordC).length)
    else signTk (c :: r) := rfl
theorem sign_res (l : List UInt8) : signAt (mk l) = tokRes (signTk l) := by
  unfold signAt signTk signRes
  rw [mkd]
  cases signL.find? (fun z => z.isPrefixOf l) <;> rfl
theorem name_mk (l : List UInt8) : value_Name.f (mk l) = some (nameL l) := rfl
theorem c_eq {c : UInt8} {n : Nat} (hn : n < 256) : ((c.toNat : Int) = (n : Int)) ↔ c = UInt8.ofNat n := by
  constructor
  · intro h; apply UInt8.toNat_inj.1; rw [UInt8.toNat_ofNat']; omega
  · rintro rfl; rw [UInt8.toNat_ofNat']; omega
theorem let_word {c : UInt8} (h : letC c = true) : wordC c = true := by simp [wordC, h]
theorem token_ev (c : UInt8) (r : List UInt8) (hl : (c :: r).length ≤ 8000) : Ev (fun k => lex_token.f k (mk (c :: r))) (tokRes (tokL (c :: r))) := by
  have hb : bt (mk (c :: r)) 0 = (c.toNat : Int) := bt_mk (l := c :: r) (i := 0) (by simp)
  have hsz : (mk (c :: r)).size = (c :: r).length := mk_size _
  have hlr : r.length < 8000 := by rw [List.length_cons] at hl; omega
  unfold lex_token.f
  rw [hb, letter_code, digit_code]
  refine Ev.pos (by rw [hsz]; simp) (Ev.bind (Ev.now _) ?_)
  rw [tokL_cons]
  by_cases h1 : letC c = true
  · rw [if_pos h1]
    refine Ev.pos h1 (Ev.bind (run_ev (c :: r) (by omega)) ?_)
    have hw := tw_le (p := wordC) (c :: r)
    rw [Int.toNat_natCast, mk_take, tw_take, name_mk]
    refine Ev.pos (by omega) (Ev.pos (by rw [hsz]; omega) (Ev.bind (Ev.now _) ?_))
    unfold wordTk
    by_cases hn : nameL ((c :: r).takeWhile wordC) = true
    · rw [if_pos hn, if_pos hn]; exact Ev.now _
    · rw [if_neg hn, if_neg hn]; exact Ev.now _
  · rw [if_neg h1]
    refine Ev.neg h1 (Ev.bind (Ev.now _) ?_)
    by_cases h2 : digC c = true
    · rw [if_pos h2]
      refine Ev.pos h2 ?_
      have := digits_ev (c :: r) hl (by rw [List.takeWhile_cons, if_pos h2]; simp)
      rw [hb] at this
      exact this
    · rw [if_neg h2]
      refine Ev.neg h2 ?_
      by_cases h3 : c = 34
      · subst h3
        rw [if_pos rfl]
        refine Ev.pos (by rfl) ?_
        rcases text_ev r hl with ⟨t, n, e, h⟩ | ⟨e, n, t, h⟩
        · rw [e]
          exact Ev.bind h (Ev.pos rfl (Ev.now _))
        · rw [e]
          exact Ev.bind h (Ev.neg (by simp) (Ev.now _))
      · rw [if_neg h3]
        refine Ev.neg (fun h => h3 ((c_eq (by decide)).1 h)) ?_
        by_cases h4 : c = 39
        · subst h4
          rw [if_pos rfl]
          have hd : (mk (39 :: r)).extract 1 (mk (39 :: r)).size = mk r := by
            rw [mk_drop (39 :: r) 1 _ (by rw [hsz]; exact Nat.le_refl _)]; rfl
          have hw := tw_le (p := wordC) r
          have hk : wrap64 (1 + ((r.takeWhile wordC).length : Int)) = ((1 + (r.takeWhile wordC).length : Nat) : Int) := by rw [w_id] <;> omega
          refine Ev.pos (by rfl) (Ev.pos (by rw [hsz]; simp; omega) ?_)
          rw [hd]
          refine Ev.bind (run_ev r (by omega)) ?_
          rw [hk]
          have he : (mk (39 :: r)).extract 1 (((1 + (r.takeWhile wordC).length : Nat) : Int)).toNat = mk (r.takeWhile wordC) := by
            rw [Int.toNat_natCast, mk_ext, Nat.add_comm 1, List.take_succ_cons, List.drop_succ_cons, List.drop_zero, tw_take]
          rw [he, name_mk]
          refine Ev.pos (by omega) (Ev.pos (by rw [hsz, List.length_cons]; omega) (Ev.bind (Ev.now _) ?_))
          unfold wordTk
          by_cases hn : nameL (r.takeWhile wordC) = true
          · rw [if_pos hn, if_pos hn]; exact Ev.now _
          · rw [if_neg hn, if_neg hn]; exact Ev.now _
        · rw [if_neg h4, sign_res]
          exact Ev.neg (fun h => h4 ((c_eq (by decide)).1 h)) (Ev.now _)
theorem signs_len : ∀ z ∈ signL, 1 ≤ z.length := by decide
theorem prt_len (t : List UInt8) : 2 ≤ (prt t).length := by simp [prt]
theorem tok_len (l : List UInt8) (x : Tk) (h : tokL l = some x) : 1 ≤ x.2.2.2 ∧ x.2.2.2 ≤ l.length := by
  cases l with
  | nil => cases h
  | cons c r =>
    rw [tokL_cons] at h
    split at h
    · rename_i h1
      unfold wordTk at h
      split at h
      · obtain rfl := Option.some.inj h
        exact ⟨by simp [List.takeWhile_cons, let_word h1], tw_le _⟩
      · cases h
    · split at h
      · rename_i h2
        unfold numTk at h
        split at h
        · obtain rfl := Option.some.inj h
          exact ⟨by simp [List.takeWhile_cons, h2], tw_le _⟩
        · cases h
      · split at h
        · obtain ⟨t, _, h2, rfl⟩ := textTk_is h
          have := prt_len t
          exact ⟨by simp only; omega, h2.length_le⟩
        · split at h
          · unfold wordTk at h
            split at h
            · obtain rfl := Option.some.inj h
              have := tw_le (p := wordC) r
              exact ⟨by simp only; omega, by simp only [List.length_cons]; omega⟩
            · cases h
          · unfold signTk at h
            obtain ⟨z, hz, rfl⟩ := Option.map_eq_some_iff.1 h
            have hm := List.mem_of_find?_eq_some hz
            have hp := List.find?_some hz
            simp only [List.isPrefixOf_iff_prefix] at hp
            exact ⟨signs_len z hm, hp.length_le⟩
theorem bm_le : ∀ (b : Bool) (l : List UInt8), bm b l ≤ l.length
  | _, [] => by simp [bm]
  | false, c :: r => by
    have h1 := bm_le false r
    have h2 := bm_le true r
    simp only [bm, List.length_cons]
    split
    · omega
    · split <;> omega
  | true, c :: r => by
    have h1 := bm_le false r
    have h2 := bm_le true r
    simp only [bm, List.length_cons]
    split <;> omega
/-- The tokens from a place on, with so much fuel; or where the first thing stands that is none. -/
noncomputable def scanF : Nat → Nat → List UInt8 → (List S32) ⊕ Nat
  | 0, at_, _ => .inr at_
  | _ + 1, at_, [] => .inl [⟨0, (⟨#[]⟩ : ByteArray), 0, (at_ : Int)⟩]
  | f + 1, at_, c :: r => match tokL (c :: r) with
    | none => .inr at_
    | some x => match scanF f (at_ + x.2.2.2 + bm false ((c :: r).drop x.2.2.2)) (((c :: r).drop x.2.2.2).drop (bm false ((c :: r).drop x.2.2.2))) with
      | .inl ts => .inl (⟨x.1, mk x.2.1, x.2.2.1, (at_ : Int)⟩ :: ts)
      | .inr e => .inr e
def scanRes (out : List S32) : (List S32) ⊕ Nat → List S32 × Int × Int
  | .inl ts => (out ++ ts, 0, 0)
  | .inr e => ([], (e : Int), 24)
noncomputable def scanL (l : List UInt8) : (List S32) ⊕ Nat := scanF (l.length + 1) (bm false l) (l.drop (bm false l))
theorem scan_step (f at_ : Nat) (c : UInt8) (r : List UInt8) (out : List S32) (x : Tk) (hx : tokL (c :: r) = some x) : scanRes out (scanF (f + 1) at_ (c :: r)) = scanRes (out ++ [⟨x.1, mk x.2.1, x.2.2.1, (at_ : Int)⟩]) (scanF f (at_ + x.2.2.2 + bm false ((c :: r).drop x.2.2.2)) (((c :: r).drop x.2.2.2).drop (bm false ((c :: r).drop x.2.2.2)))) := by
  simp only [scanF, hx]
  cases scanF f (at_ + x.2.2.2 + bm false ((c :: r).drop x.2.2.2)) (((c :: r).drop x.2.2.2).drop (bm false ((c :: r).drop x.2.2.2))) with
  | inl ts => simp [scanRes]
  | inr e => rfl
theorem scan_loop (l : List UInt8) (hl : l.length ≤ 8000) : ∀ (f i : Nat) (out : List S32), l.length - i < f → i ≤ l.length → out.length ≤ i → Ev (fun k => lex_Scan.l0 k (mk l) out (i : Int)) (scanRes out (scanF f i (l.drop i))) := by
  intro f
  induction f with
  | zero => intro i out h; omega
  | succ f ih =>
    intro i out hf hi ho
    refine Ev.step (fun k => by simp only [lex_Scan.l0]; rfl) ?_
    by_cases hlt : i < l.length
    · have hdr := List.drop_eq_getElem_cons hlt
      generalize l[i] = c at hdr
      generalize hY : l.drop (i + 1) = Y at hdr
      have hYl : (c :: Y).length = l.length - i := by rw [← hdr, List.length_drop]
      have he : (mk l).extract ((i : Int)).toNat (mk l).size = mk (c :: Y) := by
        rw [Int.toNat_natCast, mk_drop l i _ (by rw [mk_size]; exact Nat.le_refl _), hdr]
      rw [he]
      refine Ev.pos (by rw [mk_size]; omega) (Ev.pos (by omega) (Ev.pos (by rw [mk_size]; omega) (Ev.bind (token_ev c Y (by omega)) ?_)))
      rw [hdr]
      cases hx : tokL (c :: Y) with
      | none =>
        refine Ev.pos (by rfl) (Ev.val ?_)
        simp only [scanF, hx]; rfl
      | some x =>
        obtain ⟨h1, h2⟩ := tok_len _ _ hx
        rw [hYl] at h2
        rw [scan_step f i c Y out x hx]
        obtain ⟨xk, xt, xv, n⟩ := x
        simp only at h1 h2 ⊢
        have e1 : wrap64 ((i : Int) + (n : Int)) = ((i + n : Nat) : Int) := by rw [w_id] <;> omega
        have hd2 : (c :: Y).drop n = l.drop (i + n) := by rw [← hdr, List.drop_drop]
        have hbl := bm_le false (l.drop (i + n))
        rw [List.length_drop] at hbl
        have e2 : (mk l).extract (((i + n : Nat) : Int)).toNat (mk l).size = mk (l.drop (i + n)) := by
          rw [Int.toNat_natCast, mk_drop l (i + n) _ (by rw [mk_size]; exact Nat.le_refl _)]
        rw [hd2, List.drop_drop]
        simp only [tokRes, e1, e2]
        clear e1 e2 he
        refine Ev.neg (by omega) (Ev.pos (by omega) (Ev.pos (by omega) (Ev.pos (by rw [mk_size]; omega) (Ev.bind (blanks_ev (l.drop (i + n)) (by rw [List.length_drop]; omega)) ?_))))
        have e3 : wrap64 (((i + n : Nat) : Int) + ((bm false (l.drop (i + n)) : Nat) : Int)) = ((i + n + bm false (l.drop (i + n)) : Nat) : Int) := by rw [w_id] <;> omega
        rw [e3]
        exact ih _ _ (by omega) (by omega) (by simp only [List.length_append, List.length_cons, List.length_nil]; omega)
    · rw [List.drop_eq_nil_of_le (by omega)]
      refine Ev.neg (by rw [mk_size]; omega) (Ev.pos (by omega) (Ev.val ?_))
      rfl
theorem scan_ev (l : List UInt8) (hl : l.length ≤ 8000) : Ev (fun k => lex_Scan.f k (mk l)) (scanRes [] (scanL l)) := by
  unfold lex_Scan.f
  have hb := bm_le false l
  refine Ev.neg (by rw [mk_size]; omega) (Ev.bind (blanks_ev l (by omega)) ?_)
  exact scan_loop l hl (l.length + 1) (bm false l) [] (by omega) hb (by simp)
theorem scan_long (l : List UInt8) (hl : ¬ l.length ≤ 8000) : Ev (fun k => lex_Scan.f k (mk l)) (([] : List S32), 0, 5) := by
  unfold lex_Scan.f
  exact Ev.pos (by rw [mk_size]; omega) (Ev.now _)
end Go.Proofs.YtdjcechogbcdnaaDoor.XL
namespace Go.Proofs.YtdjcechogbcdnaaDoor.XL
open Go.RowKit Go.Proofs.YtdjcechogbcdnaaDoorW.PrintWords Go.Proofs.YtdjcechogbcdnaaDoorW.PrintLast Go.Proofs.YtdjcechogbcdnaaDoorW.PrintMore
attribute [local go_sem] max2_int min2_int max_two min_two max_three min_three max_four min_four   -- for this text's walks alone
set_option linter.unusedVariables false
set_option linter.unusedSimpArgs false
theorem eqA32 (d : Nat) (w : World) (x0 y0 : Int) (x1 y1 : ByteArray) (x2 y2 : Int) (x3 y3 : Int) :
    (Op.equalIn (d + 2) 32 (.agg #[.int .i64 x0, .string x1, .int .i64 x2, .int .i64 x3]) (.agg #[.int .i64 y0, .string y1, .int .i64 y2, .int .i64 y3])).run Tryd.prog w = .ok (x0 == y0 && (x1.toList == y1.toList && (x2 == y2 && (x3 == y3)))) w := by
  refine eqA_of Tryd.underlying32 (by kernel_rfl) ?_
  refine eqf_cons (by rfl) (by go_simp; rfl) (by go_simp; rfl) (by go_simp) ?_
  refine eqf_cons (by rfl) (by go_simp; rfl) (by go_simp; rfl) (by go_simp) ?_
  refine eqf_cons (by rfl) (by go_simp; rfl) (by go_simp; rfl) (by go_simp) ?_
  exact eqf_last (by rfl) (by go_simp; rfl) (by go_simp; rfl) (by go_simp)
end Go.Proofs.YtdjcechogbcdnaaDoor.XL
namespace Go.Proofs.YtdjcechogbcdnaaDoor.XL
open Go.RowKit Go.Proofs.YtdjcechogbcdnaaDoorW.PrintWords Go.Proofs.YtdjcechogbcdnaaDoorW.PrintLast Go.Proofs.YtdjcechogbcdnaaDoorW.PrintMore
set_option linter.unusedVariables false
set_option linter.unusedSimpArgs false
theorem w_sub {a b : Nat} (h : b ≤ a) (ha : a ≤ 4611686018427387904) : wrap64 ((a : Int) - (b : Int)) = ((a - b : Nat) : Int) := by unfold wrap64; omega
end Go.Proofs.YtdjcechogbcdnaaDoor.XL
namespace Go.Proofs.YtdjcechogbcdnaaDoor.XL
open Go.RowKit Go.Proofs.YtdjcechogbcdnaaDoorW.PrintWords Go.Proofs.YtdjcechogbcdnaaDoorW.PrintLast Go.Proofs.YtdjcechogbcdnaaDoorW.PrintMore
set_option linter.unusedVariables false
set_option linter.unusedSimpArgs false
theorem rdT_at (l : List S32) (i : Nat) (h : i < l.length) : rd_T32 l (i : Int) = l[i] := by
  unfold rd_T32; simp [h]
end Go.Proofs.YtdjcechogbcdnaaDoor.XL
namespace Go.Proofs.YtdjcechogbcdnaaDoor.XL
open Go.RowKit Go.Proofs.YtdjcechogbcdnaaDoorW.PrintWords Go.Proofs.YtdjcechogbcdnaaDoorW.PrintLast Go.Proofs.YtdjcechogbcdnaaDoorW.PrintMore
set_option linter.unusedVariables false
set_option linter.unusedSimpArgs false
theorem scanF_some {f a : Nat} {c : UInt8} {r : List UInt8} {x : Tk} (h : tokL (c :: r) = some x) : scanF (f + 1) a (c :: r) = (match scanF f (a + x.2.2.2 + bm false ((c :: r).drop x.2.2.2)) (((c :: r).drop x.2.2.2).drop (bm false ((c :: r).drop x.2.2.2))) with | .inl ts => .inl (⟨x.1, mk x.2.1, x.2.2.1, (a : Int)⟩ :: ts) | .inr e => .inr e) := by
  simp only [scanF, h] <;> rfl
theorem scanF_none {f a : Nat} {c : UInt8} {r : List UInt8} (h : tokL (c :: r) = none) : scanF (f + 1) a (c :: r) = .inr a := by
  simp only [scanF, h]
theorem aw1 : scanL [97, 45, 62, 98, 32, 47, 47, 32, 99] = .inl [⟨1, mk [97], 0, 0⟩, ⟨5, mk [45, 62], 0, 1⟩, ⟨1, mk [98], 0, 3⟩, ⟨0, ⟨#[]⟩, 0, 9⟩] := by
  have t1 : tokL [97, 45, 62, 98, 32, 47, 47, 32, 99] = some (1, [97], 0, 1) := by rw [tokL_cons, if_pos (by decide)]; decide +kernel
  have t2 : tokL [45, 62, 98, 32, 47, 47, 32, 99] = some (5, [45, 62], 0, 2) := by rw [tokL_cons, if_neg (by decide), if_neg (by decide), if_neg (by decide), if_neg (by decide)]; decide +kernel
  have t3 : tokL [98, 32, 47, 47, 32, 99] = some (1, [98], 0, 1) := by rw [tokL_cons, if_pos (by decide)]; decide +kernel
  have b0 : bm false [97, 45, 62, 98, 32, 47, 47, 32, 99] = 0 := by decide
  have b1 : bm false [45, 62, 98, 32, 47, 47, 32, 99] = 0 := by decide
  have b2 : bm false [98, 32, 47, 47, 32, 99] = 0 := by decide
  have b3 : bm false [32, 47, 47, 32, 99] = 5 := by decide
  unfold scanL
  rw [b0]
  show scanF 10 0 [97, 45, 62, 98, 32, 47, 47, 32, 99] = _
  rw [scanF_some t1]
  simp only [List.drop_succ_cons, List.drop_zero, b1]
  rw [scanF_some t2]
  simp only [List.drop_succ_cons, List.drop_zero, b2]
  rw [scanF_some t3]
  simp only [List.drop_succ_cons, List.drop_zero, b3]
  rfl
theorem aw2 : scanL [48, 49] = .inr 0 := by
  have t1 : tokL [48, 49] = none := by rw [tokL_cons, if_neg (by decide), if_pos (by decide)]; decide +kernel
  have b0 : bm false [48, 49] = 0 := by decide
  unfold scanL
  rw [b0]
  exact scanF_none t1
theorem aw3 : scanL [34, 92, 113, 34] = .inr 0 := by
  have t1 : tokL [34, 92, 113, 34] = none := by
    rw [tokL_cons, if_neg (by decide), if_neg (by decide), if_pos rfl]
    refine textTk_none fun t _ h => ?_
    obtain ⟨x, hx⟩ := h
    cases t with
    | nil => simp [prt] at hx
    | cons b t =>
      have no : ∀ n : Fin 256, ¬ (enc (UInt8.ofNat n.val)).isPrefixOf [92, 113, 34] = true := by decide +kernel
      apply no ⟨b.toNat, b.toNat_lt⟩
      simp only [UInt8.ofNat_toNat]
      rw [List.isPrefixOf_iff_prefix]
      unfold prt at hx
      rw [List.cons_append] at hx
      have := (List.cons.inj hx).2
      rw [← this, List.flatMap_cons, List.append_assoc, List.append_assoc]
      exact List.prefix_append _ _
  have b0 : bm false [34, 92, 113, 34] = 0 := by decide
  unfold scanL
  rw [b0]
  exact scanF_none t1
theorem aw4 : scanL [39] = .inr 0 := by
  have t1 : tokL [39] = none := by rw [tokL_cons, if_neg (by decide), if_neg (by decide), if_neg (by decide), if_pos rfl]; decide +kernel
  have b0 : bm false [39] = 0 := by decide
  unfold scanL
  rw [b0]
  exact scanF_none t1
theorem awake_ev : Ev (fun k => switchyardlaw07_awake.f k) true := by
  have h1 := scan_ev [97, 45, 62, 98, 32, 47, 47, 32, 99] (by decide)
  have h2 := scan_ev [48, 49] (by decide)
  have h3 := scan_ev [34, 92, 113, 34] (by decide)
  have h4 := scan_ev [39] (by decide)
  rw [aw1] at h1
  rw [aw2] at h2
  rw [aw3] at h3
  rw [aw4] at h4
  unfold switchyardlaw07_awake.f
  refine Ev.bind h1 (Ev.bind h2 (Ev.bind h3 (Ev.bind h4 ?_)))
  refine Ev.pos rfl (Ev.pos rfl (Ev.pos (by decide) (Ev.pos ?_ (Ev.pos (by decide) (Ev.pos rfl (Ev.pos rfl (Ev.pos rfl (Ev.pos rfl (Ev.now _)))))))))
  show (mk [45, 62]).toList = _
  rw [mkT]
theorem scan_len : ∀ (f a : Nat) (l : List UInt8) (ts : List S32), scanF f a l = .inl ts → ts.length ≤ f
  | 0, a, l, ts, h => by cases h
  | f + 1, a, [], ts, h => by
    have : ts = [⟨0, (⟨#[]⟩ : ByteArray), 0, (a : Int)⟩] := (Sum.inl.inj h).symm
    rw [this]; simp
  | f + 1, a, c :: r, ts, h => by
    cases hx : tokL (c :: r) with
    | none => rw [scanF_none hx] at h; cases h
    | some x =>
      rw [scanF_some hx] at h
      split at h
      · rename_i us hu
        have := scan_len f _ _ us hu
        rw [← Sum.inl.inj h, List.length_cons]; omega
      · cases h
end Go.Proofs.YtdjcechogbcdnaaDoor.XL
namespace Go.Proofs.YtdjcechogbcdnaaDoor.XL
open Go.RowKit Go.Proofs.YtdjcechogbcdnaaDoorW.PrintWords Go.Proofs.YtdjcechogbcdnaaDoorW.PrintLast Go.Proofs.YtdjcechogbcdnaaDoorW.PrintMore
set_option linter.unusedVariables false
set_option linter.unusedSimpArgs false
/-- Nothing, or a blank at the front. -/
def Gap (y : List UInt8) : Prop := y = [] ∨ ∃ b z, y = b :: z ∧ blankC b = true
theorem gap_ends {y : List UInt8} (h : Gap y) {b : UInt8} {z : List UInt8} (hy : y = b :: z) : blankC b = true := by
  rcases h with rfl | ⟨b', z', rfl, hb⟩
  · cases hy
  · rw [← (List.cons.inj hy).1]; exact hb
theorem blank_not : ∀ n : Fin 256, blankC (UInt8.ofNat n.val) = true → wordC (UInt8.ofNat n.val) = false ∧ digC (UInt8.ofNat n.val) = false ∧ UInt8.ofNat n.val ≠ 47 := by decide +kernel
theorem blank_no {b : UInt8} (h : blankC b = true) : wordC b = false ∧ digC b = false ∧ b ≠ 47 := by
  have := blank_not ⟨b.toNat, b.toNat_lt⟩
  simp only [UInt8.ofNat_toNat] at this
  exact this h
theorem tw_gap {p : UInt8 → Bool} (hp : ∀ b, blankC b = true → p b = false) : ∀ (u y : List UInt8), Gap y → (u ++ y).takeWhile p = u.takeWhile p
  | [], y, hy => by
    rcases hy with rfl | ⟨b, z, rfl, hb⟩
    · rfl
    · rw [List.nil_append, List.takeWhile_cons, hp b hb]; rfl
  | c :: u, y, hy => by
    rw [List.cons_append, List.takeWhile_cons, List.takeWhile_cons, tw_gap hp u y hy]
theorem tw_cut {p : UInt8 → Bool} : ∀ (u : List UInt8) (k : Nat), (u.takeWhile p).length ≤ k → (u.take k).takeWhile p = u.takeWhile p
  | [], k, _ => by simp
  | c :: u, 0, h => by
    by_cases hp : p c = true
    · rw [List.takeWhile_cons, if_pos hp] at h; simp at h
    · rw [List.takeWhile_cons, if_neg hp]; rfl
  | c :: u, k + 1, h => by
    rw [List.take_succ_cons, List.takeWhile_cons, List.takeWhile_cons]
    by_cases hp : p c = true
    · rw [if_pos hp, if_pos hp]
      rw [List.takeWhile_cons, if_pos hp, List.length_cons] at h
      rw [tw_cut u k (by omega)]
    · rw [if_neg hp, if_neg hp]
theorem find_same {α : Type} {p q : α → Bool} : ∀ (L : List α) (z : α), L.find? p = some z → q z = true → (∀ x ∈ L, q x = true → p x = true) → L.find? q = some z
  | [], z, h, _, _ => by cases h
  | x :: L, z, h, hq, hs => by
    rw [List.find?_cons] at h ⊢
    by_cases hx : p x = true
    · rw [hx] at h
      obtain rfl : x = z := Option.some.inj h
      rw [hq]
    · have hpx : p x = false := by simpa using hx
      rw [hpx] at h
      have hqx : q x = false := by
        rw [Bool.eq_false_iff]
        intro e; exact hx (hs x List.mem_cons_self e)
      rw [hqx]
      exact find_same L z h hq (fun y hy => hs y (List.mem_cons_of_mem _ hy))
theorem sign_bytes : ∀ z ∈ signL, ∀ c ∈ z, blankC c = false := by decide
theorem pre_cut {z u : List UInt8} {k : Nat} (h : z <+: u.take k) : z <+: u := h.trans (List.take_prefix _ _)
theorem cut_pre {z u : List UInt8} {k : Nat} (h : z <+: u) (hk : z.length ≤ k) : z <+: u.take k := by
  rw [List.prefix_iff_eq_take] at h ⊢
  rw [List.take_take, Nat.min_eq_left hk]; exact h
theorem pre_gap : ∀ {z u y : List UInt8}, Gap y → (∀ c ∈ z, blankC c = false) → z <+: u ++ y → z <+: u
  | [], u, y, _, _, _ => List.nil_prefix
  | c :: z, [], y, hy, hz, h => by
    exfalso
    obtain ⟨t, ht⟩ := h
    have h1 := gap_ends hy (b := c) (z := z ++ t) (by rw [List.nil_append] at ht; rw [← ht]; rfl)
    rw [hz c List.mem_cons_self] at h1
    cases h1
  | c :: z, d :: u, y, hy, hz, h => by
    rw [List.cons_append, List.cons_prefix_cons] at h
    rw [List.cons_prefix_cons]
    exact ⟨h.1, pre_gap hy (fun x hx => hz x (List.mem_cons_of_mem _ hx)) h.2⟩
/-- A token is the same where the text behind it is cut off. -/
theorem tok_take {u : List UInt8} {x : Tk} {k : Nat} (h : tokL u = some x) (hk : x.2.2.2 ≤ k) : tokL (u.take k) = some x := by
  obtain ⟨h1, h2⟩ := tok_len u x h
  cases u with
  | nil => cases h
  | cons c r =>
    obtain ⟨m, rfl⟩ : ∃ m, k = m + 1 := ⟨k - 1, by omega⟩
    rw [List.take_succ_cons]
    have e : c :: r.take m = (c :: r).take (m + 1) := (List.take_succ_cons).symm
    rw [tokL_cons] at h ⊢
    by_cases l1 : letC c = true
    · rw [if_pos l1] at h ⊢
      have hn : x.2.2.2 = ((c :: r).takeWhile wordC).length := by
        unfold wordTk at h; split at h
        · rw [← Option.some.inj h]
        · cases h
      rw [e, tw_cut _ _ (by omega)]; exact h
    · rw [if_neg l1] at h ⊢
      by_cases l2 : digC c = true
      · rw [if_pos l2] at h ⊢
        have hn : x.2.2.2 = ((c :: r).takeWhile digC).length := by
          unfold numTk at h; split at h
          · rw [← Option.some.inj h]
          · cases h
        rw [e, tw_cut _ _ (by omega)]; exact h
      · rw [if_neg l2] at h ⊢
        by_cases l3 : c = 34
        · rw [if_pos l3] at h ⊢
          obtain ⟨t, t1, t2, rfl⟩ := textTk_is h
          rw [e]
          exact textTk_some t1 (cut_pre t2 hk)
        · rw [if_neg l3] at h ⊢
          by_cases l4 : c = 39
          · rw [if_pos l4] at h ⊢
            have hn : x.2.2.2 = 1 + (r.takeWhile wordC).length := by
              unfold wordTk at h; split at h
              · rw [← Option.some.inj h]
              · cases h
            rw [tw_cut _ _ (by omega)]; exact h
          · rw [if_neg l4] at h ⊢
            unfold signTk at h ⊢
            obtain ⟨z, hz, rfl⟩ := Option.map_eq_some_iff.1 h
            rw [e]
            have hp := List.find?_some hz
            rw [List.isPrefixOf_iff_prefix] at hp
            rw [find_same signL z hz (by rw [List.isPrefixOf_iff_prefix]; exact cut_pre hp hk) (fun y _ hy => by
              rw [List.isPrefixOf_iff_prefix] at hy ⊢; exact pre_cut hy)]
            rfl
/-- A token is the same where a blank comes behind it. -/
theorem tok_gap {u y : List UInt8} {x : Tk} (hy : Gap y) (h : tokL u = some x) : tokL (u ++ y) = some x := by
  cases u with
  | nil => cases h
  | cons c r =>
    have e : c :: (r ++ y) = (c :: r) ++ y := rfl
    rw [List.cons_append]
    rw [tokL_cons] at h ⊢
    have hw := tw_gap (p := wordC) (fun b hb => (blank_no hb).1)
    have hd := tw_gap (p := digC) (fun b hb => (blank_no hb).2.1)
    by_cases l1 : letC c = true
    · rw [if_pos l1] at h ⊢
      rw [e, hw _ _ hy]; exact h
    · rw [if_neg l1] at h ⊢
      by_cases l2 : digC c = true
      · rw [if_pos l2] at h ⊢
        rw [e, hd _ _ hy]; exact h
      · rw [if_neg l2] at h ⊢
        by_cases l3 : c = 34
        · rw [if_pos l3] at h ⊢
          obtain ⟨t, t1, t2, rfl⟩ := textTk_is h
          exact textTk_some t1 (t2.trans (List.prefix_append _ _))
        · rw [if_neg l3] at h ⊢
          by_cases l4 : c = 39
          · rw [if_pos l4] at h ⊢
            rw [hw _ _ hy]; exact h
          · rw [if_neg l4] at h ⊢
            unfold signTk at h ⊢
            obtain ⟨z, hz, rfl⟩ := Option.map_eq_some_iff.1 h
            rw [e]
            have hp := List.find?_some hz
            rw [List.isPrefixOf_iff_prefix] at hp
            rw [find_same signL z hz (by rw [List.isPrefixOf_iff_prefix]; exact hp.trans (List.prefix_append _ _)) (fun v hv hq => by
              rw [List.isPrefixOf_iff_prefix] at hq ⊢; exact pre_gap hy (sign_bytes v hv) hq)]
            rfl
theorem bm_gap : ∀ (b : Bool) (u y : List UInt8), Gap y → bm b u < u.length → bm b (u ++ y) = bm b u
  | b, [], y, _, h => by simp at h
  | false, c :: r, y, hy, h => by
    simp only [bm, List.cons_append] at h ⊢
    by_cases hc : blankC c = true
    · rw [if_pos hc] at h ⊢
      rw [if_pos hc, bm_gap false r y hy (by simp only [List.length_cons] at h; omega)]
    · rw [if_neg hc] at h ⊢
      rw [if_neg hc]
      by_cases hcm : c = 47 ∧ r.head? = some 47
      · rw [if_pos hcm] at h ⊢
        have hr : (r ++ y).head? = some 47 := by
          cases r with
          | nil => cases hcm.2
          | cons d r => exact hcm.2
        rw [if_pos ⟨hcm.1, hr⟩, bm_gap true r y hy (by simp only [List.length_cons] at h; omega)]
      · rw [if_neg hcm]
        rw [if_neg]
        rintro ⟨h1, h2⟩
        cases r with
        | nil =>
          cases y with
          | nil => cases h2
          | cons b z => exact (blank_no (gap_ends hy rfl)).2.2 (Option.some.inj h2)
        | cons d r => exact hcm ⟨h1, h2⟩
  | true, c :: r, y, hy, h => by
    simp only [bm, List.cons_append] at h ⊢
    by_cases hc : c = 10
    · rw [if_pos hc] at h ⊢
      rw [if_pos hc, bm_gap false r y hy (by simp only [List.length_cons] at h; omega)]
    · rw [if_neg hc] at h ⊢
      rw [if_neg hc, bm_gap true r y hy (by simp only [List.length_cons] at h; omega)]
theorem bm_full : ∀ (b : Bool) (u z : List UInt8), bm b u = u.length → bm b (u ++ 10 :: z) = u.length + 1 + bm false z
  | true, [], z, h => by simp [bm]
  | false, [], z, h => by simp [bm, blankC]
  | false, c :: r, z, h => by
    simp only [bm, List.cons_append, List.length_cons] at h ⊢
    by_cases hc : blankC c = true
    · rw [if_pos hc] at h ⊢
      rw [bm_full false r z (by omega)]; omega
    · rw [if_neg hc] at h ⊢
      by_cases hcm : c = 47 ∧ r.head? = some 47
      · rw [if_pos hcm] at h
        have hr : (r ++ 10 :: z).head? = some 47 := by
          cases r with
          | nil => cases hcm.2
          | cons d r => exact hcm.2
        rw [if_pos ⟨hcm.1, hr⟩, bm_full true r z (by omega)]; omega
      · rw [if_neg hcm] at h; omega
  | true, c :: r, z, h => by
    simp only [bm, List.cons_append, List.length_cons] at h ⊢
    by_cases hc : c = 10
    · rw [if_pos hc] at h ⊢
      rw [bm_full false r z (by omega)]; omega
    · rw [if_neg hc] at h ⊢
      rw [bm_full true r z (by omega)]; omega
theorem bm_cut : ∀ (b : Bool) (u : List UInt8) (k : Nat), bm b u ≤ k → bm b (u.take k) = bm b u
  | b, [], k, _ => by simp
  | b, c :: r, 0, h => by
    rw [List.take_zero]
    have : bm b [] = 0 := by cases b <;> rfl
    omega
  | false, c :: r, k + 1, h => by
    rw [List.take_succ_cons]
    simp only [bm] at h ⊢
    by_cases hc : blankC c = true
    · rw [if_pos hc] at h ⊢
      rw [if_pos hc, bm_cut false r k (by omega)]
    · rw [if_neg hc] at h ⊢
      rw [if_neg hc]
      by_cases hcm : c = 47 ∧ r.head? = some 47
      · rw [if_pos hcm] at h
        obtain ⟨h1, h2⟩ := hcm
        cases r with
        | nil => cases h2
        | cons d r =>
          obtain rfl : d = 47 := Option.some.inj h2
          have hb : bm true (47 :: r) = 1 + bm true r := by simp [bm]
          obtain ⟨m, rfl⟩ : ∃ m, k = m + 1 := ⟨k - 1, by omega⟩
          rw [if_pos ⟨h1, by rw [List.take_succ_cons]; rfl⟩, if_pos ⟨h1, rfl⟩, bm_cut true (47 :: r) (m + 1) (by omega)]
      · rw [if_neg hcm, if_neg]
        rintro ⟨h1, h2⟩
        cases r with
        | nil => simp at h2
        | cons d r =>
          cases k with
          | zero => simp at h2
          | succ k => exact hcm ⟨h1, by simpa using h2⟩
  | true, c :: r, k + 1, h => by
    rw [List.take_succ_cons]
    simp only [bm] at h ⊢
    by_cases hc : c = 10
    · rw [if_pos hc] at h ⊢
      rw [if_pos hc, bm_cut false r k (by omega)]
    · rw [if_neg hc] at h ⊢
      rw [if_neg hc, bm_cut true r k (by omega)]
theorem scanF_fuel : ∀ (f g a : Nat) (l : List UInt8), l.length < f → l.length < g → scanF f a l = scanF g a l
  | 0, _, _, _, h, _ => by omega
  | _, 0, _, _, _, h => by omega
  | f + 1, g + 1, a, [], _, _ => rfl
  | f + 1, g + 1, a, c :: r, hf, hg => by
    cases hx : tokL (c :: r) with
    | none => rw [scanF_none hx, scanF_none hx]
    | some x =>
      obtain ⟨h1, h2⟩ := tok_len _ _ hx
      rw [scanF_some hx, scanF_some hx, scanF_fuel f g]
      · rw [List.length_drop, List.length_drop]; omega
      · rw [List.length_drop, List.length_drop]; omega
/-- The tokens of a text that begins at a place, blanks ahead. -/
noncomputable def scanW (a : Nat) (l : List UInt8) : (List S32) ⊕ Nat := scanF (l.length + 1) (a + bm false l) (l.drop (bm false l))
theorem scanW_zero (l : List UInt8) : scanL l = scanW 0 l := by unfold scanL scanW; rw [Nat.zero_add]
theorem scanW_end {a : Nat} {l : List UInt8} (h : l.drop (bm false l) = []) : scanW a l = .inl [⟨0, (⟨#[]⟩ : ByteArray), 0, ((a + bm false l : Nat) : Int)⟩] := by
  unfold scanW; rw [h]; rfl
theorem scanW_bad {a : Nat} {l r : List UInt8} {c : UInt8} (h : l.drop (bm false l) = c :: r) (hx : tokL (c :: r) = none) : scanW a l = .inr (a + bm false l) := by
  unfold scanW; rw [h]; exact scanF_none hx
theorem scanW_tok {a : Nat} {l r : List UInt8} {c : UInt8} {x : Tk} (h : l.drop (bm false l) = c :: r) (hx : tokL (c :: r) = some x) : scanW a l = (match scanW (a + bm false l + x.2.2.2) ((c :: r).drop x.2.2.2) with | .inl ts => .inl (⟨x.1, mk x.2.1, x.2.2.1, ((a + bm false l : Nat) : Int)⟩ :: ts) | .inr e => .inr e) := by
  obtain ⟨h1, h2⟩ := tok_len _ _ hx
  have hl := congrArg List.length h
  rw [List.length_drop] at hl
  unfold scanW
  rw [h, scanF_some hx, scanF_fuel l.length (((c :: r).drop x.2.2.2).length + 1) _ _ (by rw [List.length_drop, List.length_drop]; omega) (by rw [List.length_drop]; omega)]
  try rfl
/-- How a text goes on: its end, something that is no token, or a token. -/
theorem scanW_cases (a : Nat) (l : List UInt8) : (l.drop (bm false l) = [] ∧ scanW a l = .inl [⟨0, (⟨#[]⟩ : ByteArray), 0, ((a + bm false l : Nat) : Int)⟩]) ∨ (∃ c r, l.drop (bm false l) = c :: r ∧ tokL (c :: r) = none ∧ scanW a l = .inr (a + bm false l)) ∨ (∃ c r x, l.drop (bm false l) = c :: r ∧ tokL (c :: r) = some x) := by
  cases h : l.drop (bm false l) with
  | nil => exact Or.inl ⟨rfl, scanW_end h⟩
  | cons c r =>
    right
    cases hx : tokL (c :: r) with
    | none => exact Or.inl ⟨c, r, rfl, hx, scanW_bad h hx⟩
    | some x => exact Or.inr ⟨c, r, x, rfl, hx⟩
end Go.Proofs.YtdjcechogbcdnaaDoor.XL
namespace Go.Proofs.YtdjcechogbcdnaaDoor.XL
open Go.RowKit Go.Proofs.YtdjcechogbcdnaaDoorW.PrintWords Go.Proofs.YtdjcechogbcdnaaDoorW.PrintLast Go.Proofs.YtdjcechogbcdnaaDoorW.PrintMore
attribute [local go_sem] max2_int min2_int max_two min_two max_three min_three max_four min_four   -- for this text's walks alone
set_option linter.unusedVariables false
set_option linter.unusedSimpArgs false
mutual
def switchyardlaw07_LexCuts.j0 : Nat → ByteArray → List (S32) → Int → Int → Bool → Option (Bool)
  | 0, _, _, _, _, _ => none
  | k + 1, x0, x3, x4, x5, x30 => if x30 = true then ((switchyardlaw07_awake.f k).bind fun t292 => (some t292)) else (if x5 = 24 then (if 0 ≤ x4 then (if x4 ≤ (x0.size : Int) then ((lex_Scan.f k (x0.extract 0 (x4 : Int).toNat)).bind fun bt293 => (if x0.size + 2 ≤ 9223372036854775807 then ((lex_Scan.f k (x0 ++ (⟨#[32, 97]⟩ : ByteArray))).bind fun bt298 => (if bt293.2.2 = 0 then (if bt298.2.2 = 0 then (some true) else (some (decide (bt298.2.1 ≥ x4)))) else (none))) else (none))) else (none)) else (none)) else (if 2 + x0.size ≤ 9223372036854775807 then (if ((⟨#[32, 9]⟩ : ByteArray) ++ x0).size + 1 ≤ 9223372036854775807 then ((lex_Scan.f k (((⟨#[32, 9]⟩ : ByteArray) ++ x0) ++ (⟨#[10]⟩ : ByteArray))).bind fun bt303 => (if bt303.2.2 = 0 then (switchyardlaw07_LexCuts.j1 k x3 bt303.1 ((bt303.1.length : Int) != (x3.length : Int))) else (switchyardlaw07_LexCuts.j1 k x3 bt303.1 true))) else (none)) else (none)))
def switchyardlaw07_LexCuts.j1 : Nat → List (S32) → List (S32) → Bool → Option (Bool)
  | 0, _, _, _ => none
  | k + 1, x3, x12, x76 => if x76 = true then (none) else (switchyardlaw07_LexCuts.l0 k x3 x12 (wrap64 ((x3.length : Int) - 1)) 0)
def switchyardlaw07_LexCuts.l0 : Nat → List (S32) → List (S32) → Int → Int → Option (Bool)
  | 0, _, _, _, _ => none
  | k + 1, x3, x12, x79, x80 => if x80 < x79 then (if 0 ≤ x80 then (if x80 < (x12.length : Int) then (if x80 < (x3.length : Int) then (if ((rd_T32 x12 x80).f3) = (wrap64 (((rd_T32 x3 x80).f3) + 2)) then (if ((rd_T32 x12 x80).f1).toList = ((rd_T32 x3 x80).f1).toList then (switchyardlaw07_LexCuts.l0 k x3 x12 x79 (wrap64 (x80 + 1))) else (none)) else (none)) else (none)) else (none)) else (none)) else (some true)
end
def switchyardlaw07_LexCuts.f (k : Nat) (a0 : ByteArray) : Option (Bool) := (switchyardlaw07_awake.f k).bind fun t285 => (if t285 = true then ((lex_Scan.f k a0).bind fun bt286 => ((switchyardlaw07_awake.f k).bind fun t291 => (if t291 = true then (switchyardlaw07_LexCuts.j0 k a0 bt286.1 bt286.2.1 bt286.2.2 (decide ((a0.size : Int) > 7000))) else (switchyardlaw07_LexCuts.j0 k a0 bt286.1 bt286.2.1 bt286.2.2 true)))) else (none))
set_option maxHeartbeats 4000000 in
set_option maxRecDepth 100000 in
theorem switchyardlaw07_LexCuts.calls (k : Nat) (a0 : ByteArray) (r : Bool) (w : World) (h : switchyardlaw07_LexCuts.f k a0 = some r) (hT : Tabs w) :
    Calls Tryd.prog 4 #[.string a0] w fun e w' => e = .returned (.bool r) ∧ Below w.heap.size w w' := by
  have HT := Aside0.mk hT
  clear hT
  have HB := Aside0.mk (Below.refl w.heap.size w)
  have H : ((switchyardlaw07_awake.f k).bind fun t285 => (if t285 = true then ((lex_Scan.f k a0).bind fun bt286 => ((switchyardlaw07_awake.f k).bind fun t291 => (if t291 = true then (switchyardlaw07_LexCuts.j0 k a0 bt286.1 bt286.2.1 bt286.2.2 (decide ((a0.size : Int) > 7000))) else (switchyardlaw07_LexCuts.j0 k a0 bt286.1 bt286.2.1 bt286.2.2 true)))) else (none))) = some r := h
  clear h
  replace H := Option.bind_eq_some_iff.mp H
  obtain ⟨t285, A20, H⟩ := H
  replace H : (if t285 = true then ((lex_Scan.f k a0).bind fun bt286 => ((switchyardlaw07_awake.f k).bind fun t291 => (if t291 = true then (switchyardlaw07_LexCuts.j0 k a0 bt286.1 bt286.2.1 bt286.2.2 (decide ((a0.size : Int) > 7000))) else (switchyardlaw07_LexCuts.j0 k a0 bt286.1 bt286.2.1 bt286.2.2 true)))) else (none)) = some r := H
  have A2 := Aside0.mk A20
  clear A20
  by_cases c3 : t285 = true
  · subst c3
    have H1 : ((lex_Scan.f k a0).bind fun bt286 => ((switchyardlaw07_awake.f k).bind fun t291 => (if t291 = true then (switchyardlaw07_LexCuts.j0 k a0 bt286.1 bt286.2.1 bt286.2.2 (decide ((a0.size : Int) > 7000))) else (switchyardlaw07_LexCuts.j0 k a0 bt286.1 bt286.2.1 bt286.2.2 true)))) = some r := by rw [if_pos rfl] at H; exact H
    clear H
    have H := H1
    clear H1
    replace H := Option.bind_eq_some_iff.mp H
    obtain ⟨⟨t286, t287, t288⟩, A40, H⟩ := H
    replace H : ((switchyardlaw07_awake.f k).bind fun t291 => (if t291 = true then (switchyardlaw07_LexCuts.j0 k a0 t286 t287 t288 (decide ((a0.size : Int) > 7000))) else (switchyardlaw07_LexCuts.j0 k a0 t286 t287 t288 true))) = some r := H
    have A4 := Aside0.mk A40
    clear A40
    have HC5 := Aside0.mk H
    clear H
    go_enter Tryd.func4, Tryd.ntmps4
    go_upto_region 4 with (first | (go_at_call 7; refine calls_of_args (args' := #[]) (by first | rfl) ?_; (with_reducible refine (switchyardlaw07_awake.calls k  true _ A2.out (Tabs.below HT.out (by repeat (first | (with_reducible first | exact HB.out | apply below_alloc | apply pw_below_drewN | apply below_drew1) | exact HB.out)))).mono ?_); rintro e w6 ⟨rfl, hb⟩; have n0_ := Aside0.mk (below_step (by repeat (first | (with_reducible first | exact HB.out | apply below_alloc | apply pw_below_drewN | apply below_drew1) | exact HB.out)) hb); clear HB; have HB := n0_; clear n0_; (try clear hb); (try clear hb2); (try clear hk); (try clear hi)) | (go_at_call 8; refine calls_of_args (args' := #[.string a0]) (by first | rfl) ?_; (with_reducible refine (lex_Scan.calls k a0 t286 t287 t288 _ A4.out (Tabs.below HT.out (by repeat (first | (with_reducible first | exact HB.out | apply below_alloc | apply pw_below_drewN | apply below_drew1) | exact HB.out)))).mono ?_); rintro e w7 ⟨v289, rfl, ho0, hb⟩; have n0_ := Aside0.mk (Kd.R_lower ho0 (below_size (by repeat (first | (with_reducible first | exact HB.out | apply below_alloc | apply pw_below_drewN | apply below_drew1) | exact HB.out)))); have n1_ := Aside0.mk (below_step (by repeat (first | (with_reducible first | exact HB.out | apply below_alloc | apply pw_below_drewN | apply below_drew1) | exact HB.out)) hb); clear HB; have HO290 := n0_; have HB := n1_; clear n0_ n1_; (try clear hb); (try clear hb2); (try clear hk); (try clear hi); (try clear ho0)))
    repeat (go_quiet (first | (go_at_call 7; refine calls_of_args (args' := #[]) (by first | rfl) ?_; (with_reducible refine (switchyardlaw07_awake.calls k  true _ A2.out (Tabs.below HT.out (by repeat (first | (with_reducible first | exact HB.out | apply below_alloc | apply pw_below_drewN | apply below_drew1) | exact HB.out)))).mono ?_); rintro e w6 ⟨rfl, hb⟩; have n0_ := Aside0.mk (below_step (by repeat (first | (with_reducible first | exact HB.out | apply below_alloc | apply pw_below_drewN | apply below_drew1) | exact HB.out)) hb); clear HB; have HB := n0_; clear n0_; (try clear hb); (try clear hb2); (try clear hk); (try clear hi)) | (go_at_call 8; refine calls_of_args (args' := #[.string a0]) (by first | rfl) ?_; (with_reducible refine (lex_Scan.calls k a0 t286 t287 t288 _ A4.out (Tabs.below HT.out (by repeat (first | (with_reducible first | exact HB.out | apply below_alloc | apply pw_below_drewN | apply below_drew1) | exact HB.out)))).mono ?_); rintro e w7 ⟨v289, rfl, ho0, hb⟩; have n0_ := Aside0.mk (Kd.R_lower ho0 (below_size (by repeat (first | (with_reducible first | exact HB.out | apply below_alloc | apply pw_below_drewN | apply below_drew1) | exact HB.out)))); have n1_ := Aside0.mk (below_step (by repeat (first | (with_reducible first | exact HB.out | apply below_alloc | apply pw_below_drewN | apply below_drew1) | exact HB.out)) hb); clear HB; have HO290 := n0_; have HB := n1_; clear n0_ n1_; (try clear hb); (try clear hb2); (try clear hk); (try clear hi); (try clear ho0))); go_upto_region 4 with (first | (go_at_call 7; refine calls_of_args (args' := #[]) (by first | rfl) ?_; (with_reducible refine (switchyardlaw07_awake.calls k  true _ A2.out (Tabs.below HT.out (by repeat (first | (with_reducible first | exact HB.out | apply below_alloc | apply pw_below_drewN | apply below_drew1) | exact HB.out)))).mono ?_); rintro e w6 ⟨rfl, hb⟩; have n0_ := Aside0.mk (below_step (by repeat (first | (with_reducible first | exact HB.out | apply below_alloc | apply pw_below_drewN | apply below_drew1) | exact HB.out)) hb); clear HB; have HB := n0_; clear n0_; (try clear hb); (try clear hb2); (try clear hk); (try clear hi)) | (go_at_call 8; refine calls_of_args (args' := #[.string a0]) (by first | rfl) ?_; (with_reducible refine (lex_Scan.calls k a0 t286 t287 t288 _ A4.out (Tabs.below HT.out (by repeat (first | (with_reducible first | exact HB.out | apply below_alloc | apply pw_below_drewN | apply below_drew1) | exact HB.out)))).mono ?_); rintro e w7 ⟨v289, rfl, ho0, hb⟩; have n0_ := Aside0.mk (Kd.R_lower ho0 (below_size (by repeat (first | (with_reducible first | exact HB.out | apply below_alloc | apply pw_below_drewN | apply below_drew1) | exact HB.out)))); have n1_ := Aside0.mk (below_step (by repeat (first | (with_reducible first | exact HB.out | apply below_alloc | apply pw_below_drewN | apply below_drew1) | exact HB.out)) hb); clear HB; have HO290 := n0_; have HB := n1_; clear n0_ n1_; (try clear hb); (try clear hb2); (try clear hk); (try clear hi); (try clear ho0))))
    (try simp only [Act.put, List.setIfInBounds_toArray, List.set_cons_zero, List.set_cons_succ])
    go_cut [30] (fun v30 wc => ∃ (kq : Nat) (x30_4 : Bool), v30 = .bool x30_4 ∧ Aside0 (switchyardlaw07_LexCuts.j0 kq a0 t286 t287 t288 x30_4 = some r) ∧ Aside0 (kq ≤ k) ∧ Aside0 (Kd.R k32 32 wc w.heap.size (fun _ => True) v289 t286) ∧ Aside0 (Below w.heap.size w wc))
    case first =>
      have H := HC5.out
      clear HC5
      replace H := Option.bind_eq_some_iff.mp H
      obtain ⟨t291, A80, H⟩ := H
      replace H : (if t291 = true then (switchyardlaw07_LexCuts.j0 k a0 t286 t287 t288 (decide ((a0.size : Int) > 7000))) else (switchyardlaw07_LexCuts.j0 k a0 t286 t287 t288 true)) = some r := H
      have A8 := Aside0.mk A80
      clear A80
      by_cases c9 : t291 = true
      · subst c9
        have H1 : (switchyardlaw07_LexCuts.j0 k a0 t286 t287 t288 (decide ((a0.size : Int) > 7000))) = some r := by rw [if_pos rfl] at H; exact H
        clear H
        have H := H1
        clear H1
        have H' := Aside0.mk H
        clear H
        go_wp2_with (first | (go_at_call 7; refine calls_of_args (args' := #[]) (by first | rfl) ?_; (with_reducible refine (switchyardlaw07_awake.calls k  true _ A8.out (Tabs.below HT.out (by repeat (first | (with_reducible first | exact HB.out | apply below_alloc | apply pw_below_drewN | apply below_drew1) | exact HB.out)))).mono ?_); rintro e w10 ⟨rfl, hb⟩; have n0_ := Aside0.mk (Kd.R_below (by (with_reducible repeat (first | apply Kd.R_alloc | apply Kd.R_drewN | apply Kd.R_drew)); exact HO290.out) hb); have n1_ := Aside0.mk (below_step (by repeat (first | (with_reducible first | exact HB.out | apply below_alloc | apply pw_below_drewN | apply below_drew1) | exact HB.out)) hb); clear HO290; clear HB; have HO290 := n0_; have HB := n1_; clear n0_ n1_; (try clear hb); (try clear hb2); (try clear hk); (try clear hi)))
        repeat (go_quiet (first | (go_at_call 7; refine calls_of_args (args' := #[]) (by first | rfl) ?_; (with_reducible refine (switchyardlaw07_awake.calls k  true _ A8.out (Tabs.below HT.out (by repeat (first | (with_reducible first | exact HB.out | apply below_alloc | apply pw_below_drewN | apply below_drew1) | exact HB.out)))).mono ?_); rintro e w10 ⟨rfl, hb⟩; have n0_ := Aside0.mk (Kd.R_below (by (with_reducible repeat (first | apply Kd.R_alloc | apply Kd.R_drewN | apply Kd.R_drew)); exact HO290.out) hb); have n1_ := Aside0.mk (below_step (by repeat (first | (with_reducible first | exact HB.out | apply below_alloc | apply pw_below_drewN | apply below_drew1) | exact HB.out)) hb); clear HO290; clear HB; have HO290 := n0_; have HB := n1_; clear n0_ n1_; (try clear hb); (try clear hb2); (try clear hk); (try clear hi))); try go_wp2_with (first | (go_at_call 7; refine calls_of_args (args' := #[]) (by first | rfl) ?_; (with_reducible refine (switchyardlaw07_awake.calls k  true _ A8.out (Tabs.below HT.out (by repeat (first | (with_reducible first | exact HB.out | apply below_alloc | apply pw_below_drewN | apply below_drew1) | exact HB.out)))).mono ?_); rintro e w10 ⟨rfl, hb⟩; have n0_ := Aside0.mk (Kd.R_below (by (with_reducible repeat (first | apply Kd.R_alloc | apply Kd.R_drewN | apply Kd.R_drew)); exact HO290.out) hb); have n1_ := Aside0.mk (below_step (by repeat (first | (with_reducible first | exact HB.out | apply below_alloc | apply pw_below_drewN | apply below_drew1) | exact HB.out)) hb); clear HO290; clear HB; have HO290 := n0_; have HB := n1_; clear n0_ n1_; (try clear hb); (try clear hb2); (try clear hk); (try clear hi))))
        go_meet
        case rel => exact ⟨_, (decide ((a0.size : Int) > 7000)), (by first | rfl | (simp; done) | (simp [*]; done)), H', ⟨by first | omega | exact Nat.le_refl _⟩, ⟨by (with_reducible repeat (first | apply Kd.R_alloc | apply Kd.R_drewN | apply Kd.R_drew)); exact HO290.out⟩, ⟨by repeat (first | (with_reducible first | exact HB.out | apply below_alloc | apply pw_below_drewN | apply below_drew1) | exact HB.out)⟩⟩
      · replace c9 := Bool.eq_false_iff.mpr c9
        subst c9
        have H1 : (switchyardlaw07_LexCuts.j0 k a0 t286 t287 t288 true) = some r := by rw [if_neg (show ¬ (false = true) by decide)] at H; exact H
        clear H
        have H := H1
        clear H1
        have H' := Aside0.mk H
        clear H
        go_wp2_with (first | (go_at_call 7; refine calls_of_args (args' := #[]) (by first | rfl) ?_; (with_reducible refine (switchyardlaw07_awake.calls k  false _ A8.out (Tabs.below HT.out (by repeat (first | (with_reducible first | exact HB.out | apply below_alloc | apply pw_below_drewN | apply below_drew1) | exact HB.out)))).mono ?_); rintro e w11 ⟨rfl, hb⟩; have n0_ := Aside0.mk (Kd.R_below (by (with_reducible repeat (first | apply Kd.R_alloc | apply Kd.R_drewN | apply Kd.R_drew)); exact HO290.out) hb); have n1_ := Aside0.mk (below_step (by repeat (first | (with_reducible first | exact HB.out | apply below_alloc | apply pw_below_drewN | apply below_drew1) | exact HB.out)) hb); clear HO290; clear HB; have HO290 := n0_; have HB := n1_; clear n0_ n1_; (try clear hb); (try clear hb2); (try clear hk); (try clear hi)))
        repeat (go_quiet (first | (go_at_call 7; refine calls_of_args (args' := #[]) (by first | rfl) ?_; (with_reducible refine (switchyardlaw07_awake.calls k  false _ A8.out (Tabs.below HT.out (by repeat (first | (with_reducible first | exact HB.out | apply below_alloc | apply pw_below_drewN | apply below_drew1) | exact HB.out)))).mono ?_); rintro e w11 ⟨rfl, hb⟩; have n0_ := Aside0.mk (Kd.R_below (by (with_reducible repeat (first | apply Kd.R_alloc | apply Kd.R_drewN | apply Kd.R_drew)); exact HO290.out) hb); have n1_ := Aside0.mk (below_step (by repeat (first | (with_reducible first | exact HB.out | apply below_alloc | apply pw_below_drewN | apply below_drew1) | exact HB.out)) hb); clear HO290; clear HB; have HO290 := n0_; have HB := n1_; clear n0_ n1_; (try clear hb); (try clear hb2); (try clear hk); (try clear hi))); try go_wp2_with (first | (go_at_call 7; refine calls_of_args (args' := #[]) (by first | rfl) ?_; (with_reducible refine (switchyardlaw07_awake.calls k  false _ A8.out (Tabs.below HT.out (by repeat (first | (with_reducible first | exact HB.out | apply below_alloc | apply pw_below_drewN | apply below_drew1) | exact HB.out)))).mono ?_); rintro e w11 ⟨rfl, hb⟩; have n0_ := Aside0.mk (Kd.R_below (by (with_reducible repeat (first | apply Kd.R_alloc | apply Kd.R_drewN | apply Kd.R_drew)); exact HO290.out) hb); have n1_ := Aside0.mk (below_step (by repeat (first | (with_reducible first | exact HB.out | apply below_alloc | apply pw_below_drewN | apply below_drew1) | exact HB.out)) hb); clear HO290; clear HB; have HO290 := n0_; have HB := n1_; clear n0_ n1_; (try clear hb); (try clear hb2); (try clear hk); (try clear hi))))
        go_meet
        case rel => exact ⟨_, (true), (by first | rfl | (simp; done) | (simp [*]; done)), H', ⟨by first | omega | exact Nat.le_refl _⟩, ⟨by (with_reducible repeat (first | apply Kd.R_alloc | apply Kd.R_drewN | apply Kd.R_drew)); exact HO290.out⟩, ⟨by repeat (first | (with_reducible first | exact HB.out | apply below_alloc | apply pw_below_drewN | apply below_drew1) | exact HB.out)⟩⟩
    case rest =>
      clear HC5
      try clear p2
      try clear c3
      try clear c4
      try clear c9
      obtain ⟨kq, x30_4, rfl, HA, HJ4, HO_3, HB⟩ := hcut
      cases kq with
      | zero => exact absurd HA.out (by simp [switchyardlaw07_LexCuts.j0])
      | succ kj4 =>
        have H := HA.out
        clear HA
        simp only [switchyardlaw07_LexCuts.j0] at H
        by_cases c12 : x30_4 = true
        · subst c12
          have H1 : ((switchyardlaw07_awake.f kj4).bind fun t292 => (some t292)) = some r := by rw [if_pos rfl] at H; exact H
          clear H
          have H := H1
          clear H1
          replace H := Option.bind_eq_some_iff.mp H
          obtain ⟨t292, A130, H⟩ := H
          replace H : (some t292) = some r := H
          have A13 := Aside0.mk A130
          clear A130
          obtain rfl := Option.some.inj H
          go_wp2_with (first | (go_at_call 7; refine calls_of_args (args' := #[]) (by first | rfl) ?_; (with_reducible refine (switchyardlaw07_awake.calls kj4  t292 _ A13.out (Tabs.below HT.out (by repeat (first | (with_reducible first | exact HB.out | apply below_alloc | apply pw_below_drewN | apply below_drew1) | exact HB.out)))).mono ?_); rintro e w14 ⟨rfl, hb⟩; have n0_ := Aside0.mk (Kd.R_below (by (with_reducible repeat (first | apply Kd.R_alloc | apply Kd.R_drewN | apply Kd.R_drew)); exact HO_3.out) hb); have n1_ := Aside0.mk (below_step (by repeat (first | (with_reducible first | exact HB.out | apply below_alloc | apply pw_below_drewN | apply below_drew1) | exact HB.out)) hb); clear HO_3; clear HB; have HO_3 := n0_; have HB := n1_; clear n0_ n1_; (try clear hb); (try clear hb2); (try clear hk); (try clear hi)))
          repeat (go_quiet (first | (go_at_call 7; refine calls_of_args (args' := #[]) (by first | rfl) ?_; (with_reducible refine (switchyardlaw07_awake.calls kj4  t292 _ A13.out (Tabs.below HT.out (by repeat (first | (with_reducible first | exact HB.out | apply below_alloc | apply pw_below_drewN | apply below_drew1) | exact HB.out)))).mono ?_); rintro e w14 ⟨rfl, hb⟩; have n0_ := Aside0.mk (Kd.R_below (by (with_reducible repeat (first | apply Kd.R_alloc | apply Kd.R_drewN | apply Kd.R_drew)); exact HO_3.out) hb); have n1_ := Aside0.mk (below_step (by repeat (first | (with_reducible first | exact HB.out | apply below_alloc | apply pw_below_drewN | apply below_drew1) | exact HB.out)) hb); clear HO_3; clear HB; have HO_3 := n0_; have HB := n1_; clear n0_ n1_; (try clear hb); (try clear hb2); (try clear hk); (try clear hi))); try go_wp2_with (first | (go_at_call 7; refine calls_of_args (args' := #[]) (by first | rfl) ?_; (with_reducible refine (switchyardlaw07_awake.calls kj4  t292 _ A13.out (Tabs.below HT.out (by repeat (first | (with_reducible first | exact HB.out | apply below_alloc | apply pw_below_drewN | apply below_drew1) | exact HB.out)))).mono ?_); rintro e w14 ⟨rfl, hb⟩; have n0_ := Aside0.mk (Kd.R_below (by (with_reducible repeat (first | apply Kd.R_alloc | apply Kd.R_drewN | apply Kd.R_drew)); exact HO_3.out) hb); have n1_ := Aside0.mk (below_step (by repeat (first | (with_reducible first | exact HB.out | apply below_alloc | apply pw_below_drewN | apply below_drew1) | exact HB.out)) hb); clear HO_3; clear HB; have HO_3 := n0_; have HB := n1_; clear n0_ n1_; (try clear hb); (try clear hb2); (try clear hk); (try clear hi))))
          go_ret
          exact ⟨by first | rfl | (simp [errW_none, errW_some] <;> rfl) | (simp [*, errW_none, errW_some] <;> rfl), by repeat (first | (with_reducible first | exact HB.out | apply below_alloc | apply pw_below_drewN | apply below_drew1) | exact HB.out)⟩
        · replace c12 := Bool.eq_false_iff.mpr c12
          subst c12
          have H1 : (if t288 = 24 then (if 0 ≤ t287 then (if t287 ≤ (a0.size : Int) then ((lex_Scan.f kj4 (a0.extract 0 (t287 : Int).toNat)).bind fun bt293 => (if a0.size + 2 ≤ 9223372036854775807 then ((lex_Scan.f kj4 (a0 ++ (⟨#[32, 97]⟩ : ByteArray))).bind fun bt298 => (if bt293.2.2 = 0 then (if bt298.2.2 = 0 then (some true) else (some (decide (bt298.2.1 ≥ t287)))) else (none))) else (none))) else (none)) else (none)) else (if 2 + a0.size ≤ 9223372036854775807 then (if ((⟨#[32, 9]⟩ : ByteArray) ++ a0).size + 1 ≤ 9223372036854775807 then ((lex_Scan.f kj4 (((⟨#[32, 9]⟩ : ByteArray) ++ a0) ++ (⟨#[10]⟩ : ByteArray))).bind fun bt303 => (if bt303.2.2 = 0 then (switchyardlaw07_LexCuts.j1 kj4 t286 bt303.1 ((bt303.1.length : Int) != (t286.length : Int))) else (switchyardlaw07_LexCuts.j1 kj4 t286 bt303.1 true))) else (none)) else (none))) = some r := by rw [if_neg (show ¬ (false = true) by decide)] at H; exact H
          clear H
          have H := H1
          clear H1
          by_cases c15 : t288 = 24
          · rw [if_pos c15] at H
            have c15b0 : (t288 == 24) = true := beq_iff_eq.mpr c15
            have c15b1 : (t288 != 24) = false := bne_eq_false_iff_eq.mpr c15
            clear c15
            by_cases c16 : 0 ≤ t287
            · rw [if_pos c16] at H
              have c16b0 := eq_true c16
              have c16b1 : decide (0 ≤ t287) = true := decide_eq_true c16
              clear c16
              by_cases c17 : t287 ≤ (a0.size : Int)
              · rw [if_pos c17] at H
                have c17b0 := eq_true c17
                have c17b1 : decide (t287 ≤ (a0.size : Int)) = true := decide_eq_true c17
                clear c17
                replace H := Option.bind_eq_some_iff.mp H
                obtain ⟨⟨t293, t294, t295⟩, A180, H⟩ := H
                replace H : (if a0.size + 2 ≤ 9223372036854775807 then ((lex_Scan.f kj4 (a0 ++ (⟨#[32, 97]⟩ : ByteArray))).bind fun bt298 => (if t295 = 0 then (if bt298.2.2 = 0 then (some true) else (some (decide (bt298.2.1 ≥ t287)))) else (none))) else (none)) = some r := H
                have A18 := Aside0.mk A180
                clear A180
                by_cases c19 : a0.size + 2 ≤ 9223372036854775807
                · rw [if_pos c19] at H
                  have c19b0 := eq_true c19
                  have c19b1 : decide (a0.size + 2 ≤ 9223372036854775807) = true := decide_eq_true c19
                  try have c19b2 : (9223372036854775807 < a0.size + 2) = False := eq_false (Nat.not_lt.2 c19)
                  try (have c19s := c19; simp only [ByteArray.size_append, bsize_mk, List.size_toArray, List.length_cons, List.length_nil, Nat.reduceAdd, Nat.zero_add] at c19s)
                  try have c19s2 := eq_false (Nat.not_lt.2 c19s)
                  replace H := Option.bind_eq_some_iff.mp H
                  obtain ⟨⟨t298, t299, t300⟩, A200, H⟩ := H
                  replace H : (if t295 = 0 then (if t300 = 0 then (some true) else (some (decide (t299 ≥ t287)))) else (none)) = some r := H
                  have A20 := Aside0.mk A200
                  clear A200
                  by_cases c21 : t295 = 0
                  · rw [if_pos c21] at H
                    have c21b0 : (t295 == 0) = true := beq_iff_eq.mpr c21
                    have c21b1 : (t295 != 0) = false := bne_eq_false_iff_eq.mpr c21
                    clear c21
                    by_cases c22 : t300 = 0
                    · rw [if_pos c22] at H
                      have c22b0 : (t300 == 0) = true := beq_iff_eq.mpr c22
                      have c22b1 : (t300 != 0) = false := bne_eq_false_iff_eq.mpr c22
                      clear c22
                      obtain rfl := Option.some.inj H
                      go_wp2_with (first | (go_at_call 8; refine calls_of_args (args' := #[.string (a0.extract 0 (t287 : Int).toNat)]) (by first | rfl) ?_; (with_reducible refine (lex_Scan.calls kj4 (a0.extract 0 (t287 : Int).toNat) t293 t294 t295 _ A18.out (Tabs.below HT.out (by repeat (first | (with_reducible first | exact HB.out | apply below_alloc | apply pw_below_drewN | apply below_drew1) | exact HB.out)))).mono ?_); rintro e w23 ⟨v296, rfl, ho0, hb⟩; have n0_ := Aside0.mk (Kd.R_elder' (by (with_reducible repeat (first | apply Kd.R_alloc | apply Kd.R_drewN | apply Kd.R_drew)); exact HO_3.out) (Kd.R_base ho0) hb); have n1_ := Aside0.mk (Kd.R_lower (Kd.R_new' ho0 (Kd.R_lt (by (with_reducible repeat (first | apply Kd.R_alloc | apply Kd.R_drewN | apply Kd.R_drew)); exact HO_3.out))) (below_size (by repeat (first | (with_reducible first | exact HB.out | apply below_alloc | apply pw_below_drewN | apply below_drew1) | exact HB.out)))); have n2_ := Aside0.mk (below_step (by repeat (first | (with_reducible first | exact HB.out | apply below_alloc | apply pw_below_drewN | apply below_drew1) | exact HB.out)) hb); clear HO_3; clear HB; have HO_3 := n0_; have HO297 := n1_; have HB := n2_; clear n0_ n1_ n2_; (try clear hb); (try clear hb2); (try clear hk); (try clear hi); (try clear ho0)) | (go_at_call 8; refine calls_of_args (args' := #[.string (a0 ++ (⟨#[32, 97]⟩ : ByteArray))]) (by first | rfl) ?_; (with_reducible refine (lex_Scan.calls kj4 (a0 ++ (⟨#[32, 97]⟩ : ByteArray)) t298 t299 t300 _ A20.out (Tabs.below HT.out (by repeat (first | (with_reducible first | exact HB.out | apply below_alloc | apply pw_below_drewN | apply below_drew1) | exact HB.out)))).mono ?_); rintro e w24 ⟨v301, rfl, ho0, hb⟩; have n0_ := Aside0.mk (Kd.R_elder' (by (with_reducible repeat (first | apply Kd.R_alloc | apply Kd.R_drewN | apply Kd.R_drew)); exact HO_3.out) (Kd.R_base ho0) hb); have n1_ := Aside0.mk (Kd.R_elder' (by (with_reducible repeat (first | apply Kd.R_alloc | apply Kd.R_drewN | apply Kd.R_drew)); exact HO297.out) (Kd.R_base ho0) hb); have n2_ := Aside0.mk (Kd.R_lower (Kd.R_new' (Kd.R_new' ho0 (Kd.R_lt (by (with_reducible repeat (first | apply Kd.R_alloc | apply Kd.R_drewN | apply Kd.R_drew)); exact HO_3.out))) (Kd.R_lt (by (with_reducible repeat (first | apply Kd.R_alloc | apply Kd.R_drewN | apply Kd.R_drew)); exact HO297.out))) (below_size (by repeat (first | (with_reducible first | exact HB.out | apply below_alloc | apply pw_below_drewN | apply below_drew1) | exact HB.out)))); have n3_ := Aside0.mk (below_step (by repeat (first | (with_reducible first | exact HB.out | apply below_alloc | apply pw_below_drewN | apply below_drew1) | exact HB.out)) hb); clear HO_3; clear HO297; clear HB; have HO_3 := n0_; have HO297 := n1_; have HO302 := n2_; have HB := n3_; clear n0_ n1_ n2_ n3_; (try clear hb); (try clear hb2); (try clear hk); (try clear hi); (try clear ho0)))
                      repeat (go_quiet (first | (go_at_call 8; refine calls_of_args (args' := #[.string (a0.extract 0 (t287 : Int).toNat)]) (by first | rfl) ?_; (with_reducible refine (lex_Scan.calls kj4 (a0.extract 0 (t287 : Int).toNat) t293 t294 t295 _ A18.out (Tabs.below HT.out (by repeat (first | (with_reducible first | exact HB.out | apply below_alloc | apply pw_below_drewN | apply below_drew1) | exact HB.out)))).mono ?_); rintro e w23 ⟨v296, rfl, ho0, hb⟩; have n0_ := Aside0.mk (Kd.R_elder' (by (with_reducible repeat (first | apply Kd.R_alloc | apply Kd.R_drewN | apply Kd.R_drew)); exact HO_3.out) (Kd.R_base ho0) hb); have n1_ := Aside0.mk (Kd.R_lower (Kd.R_new' ho0 (Kd.R_lt (by (with_reducible repeat (first | apply Kd.R_alloc | apply Kd.R_drewN | apply Kd.R_drew)); exact HO_3.out))) (below_size (by repeat (first | (with_reducible first | exact HB.out | apply below_alloc | apply pw_below_drewN | apply below_drew1) | exact HB.out)))); have n2_ := Aside0.mk (below_step (by repeat (first | (with_reducible first | exact HB.out | apply below_alloc | apply pw_below_drewN | apply below_drew1) | exact HB.out)) hb); clear HO_3; clear HB; have HO_3 := n0_; have HO297 := n1_; have HB := n2_; clear n0_ n1_ n2_; (try clear hb); (try clear hb2); (try clear hk); (try clear hi); (try clear ho0)) | (go_at_call 8; refine calls_of_args (args' := #[.string (a0 ++ (⟨#[32, 97]⟩ : ByteArray))]) (by first | rfl) ?_; (with_reducible refine (lex_Scan.calls kj4 (a0 ++ (⟨#[32, 97]⟩ : ByteArray)) t298 t299 t300 _ A20.out (Tabs.below HT.out (by repeat (first | (with_reducible first | exact HB.out | apply below_alloc | apply pw_below_drewN | apply below_drew1) | exact HB.out)))).mono ?_); rintro e w24 ⟨v301, rfl, ho0, hb⟩; have n0_ := Aside0.mk (Kd.R_elder' (by (with_reducible repeat (first | apply Kd.R_alloc | apply Kd.R_drewN | apply Kd.R_drew)); exact HO_3.out) (Kd.R_base ho0) hb); have n1_ := Aside0.mk (Kd.R_elder' (by (with_reducible repeat (first | apply Kd.R_alloc | apply Kd.R_drewN | apply Kd.R_drew)); exact HO297.out) (Kd.R_base ho0) hb); have n2_ := Aside0.mk (Kd.R_lower (Kd.R_new' (Kd.R_new' ho0 (Kd.R_lt (by (with_reducible repeat (first | apply Kd.R_alloc | apply Kd.R_drewN | apply Kd.R_drew)); exact HO_3.out))) (Kd.R_lt (by (with_reducible repeat (first | apply Kd.R_alloc | apply Kd.R_drewN | apply Kd.R_drew)); exact HO297.out))) (below_size (by repeat (first | (with_reducible first | exact HB.out | apply below_alloc | apply pw_below_drewN | apply below_drew1) | exact HB.out)))); have n3_ := Aside0.mk (below_step (by repeat (first | (with_reducible first | exact HB.out | apply below_alloc | apply pw_below_drewN | apply below_drew1) | exact HB.out)) hb); clear HO_3; clear HO297; clear HB; have HO_3 := n0_; have HO297 := n1_; have HO302 := n2_; have HB := n3_; clear n0_ n1_ n2_ n3_; (try clear hb); (try clear hb2); (try clear hk); (try clear hi); (try clear ho0))); try go_wp2_with (first | (go_at_call 8; refine calls_of_args (args' := #[.string (a0.extract 0 (t287 : Int).toNat)]) (by first | rfl) ?_; (with_reducible refine (lex_Scan.calls kj4 (a0.extract 0 (t287 : Int).toNat) t293 t294 t295 _ A18.out (Tabs.below HT.out (by repeat (first | (with_reducible first | exact HB.out | apply below_alloc | apply pw_below_drewN | apply below_drew1) | exact HB.out)))).mono ?_); rintro e w23 ⟨v296, rfl, ho0, hb⟩; have n0_ := Aside0.mk (Kd.R_elder' (by (with_reducible repeat (first | apply Kd.R_alloc | apply Kd.R_drewN | apply Kd.R_drew)); exact HO_3.out) (Kd.R_base ho0) hb); have n1_ := Aside0.mk (Kd.R_lower (Kd.R_new' ho0 (Kd.R_lt (by (with_reducible repeat (first | apply Kd.R_alloc | apply Kd.R_drewN | apply Kd.R_drew)); exact HO_3.out))) (below_size (by repeat (first | (with_reducible first | exact HB.out | apply below_alloc | apply pw_below_drewN | apply below_drew1) | exact HB.out)))); have n2_ := Aside0.mk (below_step (by repeat (first | (with_reducible first | exact HB.out | apply below_alloc | apply pw_below_drewN | apply below_drew1) | exact HB.out)) hb); clear HO_3; clear HB; have HO_3 := n0_; have HO297 := n1_; have HB := n2_; clear n0_ n1_ n2_; (try clear hb); (try clear hb2); (try clear hk); (try clear hi); (try clear ho0)) | (go_at_call 8; refine calls_of_args (args' := #[.string (a0 ++ (⟨#[32, 97]⟩ : ByteArray))]) (by first | rfl) ?_; (with_reducible refine (lex_Scan.calls kj4 (a0 ++ (⟨#[32, 97]⟩ : ByteArray)) t298 t299 t300 _ A20.out (Tabs.below HT.out (by repeat (first | (with_reducible first | exact HB.out | apply below_alloc | apply pw_below_drewN | apply below_drew1) | exact HB.out)))).mono ?_); rintro e w24 ⟨v301, rfl, ho0, hb⟩; have n0_ := Aside0.mk (Kd.R_elder' (by (with_reducible repeat (first | apply Kd.R_alloc | apply Kd.R_drewN | apply Kd.R_drew)); exact HO_3.out) (Kd.R_base ho0) hb); have n1_ := Aside0.mk (Kd.R_elder' (by (with_reducible repeat (first | apply Kd.R_alloc | apply Kd.R_drewN | apply Kd.R_drew)); exact HO297.out) (Kd.R_base ho0) hb); have n2_ := Aside0.mk (Kd.R_lower (Kd.R_new' (Kd.R_new' ho0 (Kd.R_lt (by (with_reducible repeat (first | apply Kd.R_alloc | apply Kd.R_drewN | apply Kd.R_drew)); exact HO_3.out))) (Kd.R_lt (by (with_reducible repeat (first | apply Kd.R_alloc | apply Kd.R_drewN | apply Kd.R_drew)); exact HO297.out))) (below_size (by repeat (first | (with_reducible first | exact HB.out | apply below_alloc | apply pw_below_drewN | apply below_drew1) | exact HB.out)))); have n3_ := Aside0.mk (below_step (by repeat (first | (with_reducible first | exact HB.out | apply below_alloc | apply pw_below_drewN | apply below_drew1) | exact HB.out)) hb); clear HO_3; clear HO297; clear HB; have HO_3 := n0_; have HO297 := n1_; have HO302 := n2_; have HB := n3_; clear n0_ n1_ n2_ n3_; (try clear hb); (try clear hb2); (try clear hk); (try clear hi); (try clear ho0))))
                      go_ret
                      exact ⟨by first | rfl | (simp [errW_none, errW_some] <;> rfl) | (simp [*, errW_none, errW_some] <;> rfl), by repeat (first | (with_reducible first | exact HB.out | apply below_alloc | apply pw_below_drewN | apply below_drew1) | exact HB.out)⟩
                    · rw [if_neg c22] at H
                      have c22b0 : (t300 == 0) = false := beq_eq_false_iff_ne.mpr c22
                      have c22b1 : (t300 != 0) = true := bne_iff_ne.mpr c22
                      obtain rfl := Option.some.inj H
                      go_wp2_with (first | (go_at_call 8; refine calls_of_args (args' := #[.string (a0.extract 0 (t287 : Int).toNat)]) (by first | rfl) ?_; (with_reducible refine (lex_Scan.calls kj4 (a0.extract 0 (t287 : Int).toNat) t293 t294 t295 _ A18.out (Tabs.below HT.out (by repeat (first | (with_reducible first | exact HB.out | apply below_alloc | apply pw_below_drewN | apply below_drew1) | exact HB.out)))).mono ?_); rintro e w25 ⟨v296, rfl, ho0, hb⟩; have n0_ := Aside0.mk (Kd.R_elder' (by (with_reducible repeat (first | apply Kd.R_alloc | apply Kd.R_drewN | apply Kd.R_drew)); exact HO_3.out) (Kd.R_base ho0) hb); have n1_ := Aside0.mk (Kd.R_lower (Kd.R_new' ho0 (Kd.R_lt (by (with_reducible repeat (first | apply Kd.R_alloc | apply Kd.R_drewN | apply Kd.R_drew)); exact HO_3.out))) (below_size (by repeat (first | (with_reducible first | exact HB.out | apply below_alloc | apply pw_below_drewN | apply below_drew1) | exact HB.out)))); have n2_ := Aside0.mk (below_step (by repeat (first | (with_reducible first | exact HB.out | apply below_alloc | apply pw_below_drewN | apply below_drew1) | exact HB.out)) hb); clear HO_3; clear HB; have HO_3 := n0_; have HO297 := n1_; have HB := n2_; clear n0_ n1_ n2_; (try clear hb); (try clear hb2); (try clear hk); (try clear hi); (try clear ho0)) | (go_at_call 8; refine calls_of_args (args' := #[.string (a0 ++ (⟨#[32, 97]⟩ : ByteArray))]) (by first | rfl) ?_; (with_reducible refine (lex_Scan.calls kj4 (a0 ++ (⟨#[32, 97]⟩ : ByteArray)) t298 t299 t300 _ A20.out (Tabs.below HT.out (by repeat (first | (with_reducible first | exact HB.out | apply below_alloc | apply pw_below_drewN | apply below_drew1) | exact HB.out)))).mono ?_); rintro e w26 ⟨v301, rfl, ho0, hb⟩; have n0_ := Aside0.mk (Kd.R_elder' (by (with_reducible repeat (first | apply Kd.R_alloc | apply Kd.R_drewN | apply Kd.R_drew)); exact HO_3.out) (Kd.R_base ho0) hb); have n1_ := Aside0.mk (Kd.R_elder' (by (with_reducible repeat (first | apply Kd.R_alloc | apply Kd.R_drewN | apply Kd.R_drew)); exact HO297.out) (Kd.R_base ho0) hb); have n2_ := Aside0.mk (Kd.R_lower (Kd.R_new' (Kd.R_new' ho0 (Kd.R_lt (by (with_reducible repeat (first | apply Kd.R_alloc | apply Kd.R_drewN | apply Kd.R_drew)); exact HO_3.out))) (Kd.R_lt (by (with_reducible repeat (first | apply Kd.R_alloc | apply Kd.R_drewN | apply Kd.R_drew)); exact HO297.out))) (below_size (by repeat (first | (with_reducible first | exact HB.out | apply below_alloc | apply pw_below_drewN | apply below_drew1) | exact HB.out)))); have n3_ := Aside0.mk (below_step (by repeat (first | (with_reducible first | exact HB.out | apply below_alloc | apply pw_below_drewN | apply below_drew1) | exact HB.out)) hb); clear HO_3; clear HO297; clear HB; have HO_3 := n0_; have HO297 := n1_; have HO302 := n2_; have HB := n3_; clear n0_ n1_ n2_ n3_; (try clear hb); (try clear hb2); (try clear hk); (try clear hi); (try clear ho0)))
                      repeat (go_quiet (first | (go_at_call 8; refine calls_of_args (args' := #[.string (a0.extract 0 (t287 : Int).toNat)]) (by first | rfl) ?_; (with_reducible refine (lex_Scan.calls kj4 (a0.extract 0 (t287 : Int).toNat) t293 t294 t295 _ A18.out (Tabs.below HT.out (by repeat (first | (with_reducible first | exact HB.out | apply below_alloc | apply pw_below_drewN | apply below_drew1) | exact HB.out)))).mono ?_); rintro e w25 ⟨v296, rfl, ho0, hb⟩; have n0_ := Aside0.mk (Kd.R_elder' (by (with_reducible repeat (first | apply Kd.R_alloc | apply Kd.R_drewN | apply Kd.R_drew)); exact HO_3.out) (Kd.R_base ho0) hb); have n1_ := Aside0.mk (Kd.R_lower (Kd.R_new' ho0 (Kd.R_lt (by (with_reducible repeat (first | apply Kd.R_alloc | apply Kd.R_drewN | apply Kd.R_drew)); exact HO_3.out))) (below_size (by repeat (first | (with_reducible first | exact HB.out | apply below_alloc | apply pw_below_drewN | apply below_drew1) | exact HB.out)))); have n2_ := Aside0.mk (below_step (by repeat (first | (with_reducible first | exact HB.out | apply below_alloc | apply pw_below_drewN | apply below_drew1) | exact HB.out)) hb); clear HO_3; clear HB; have HO_3 := n0_; have HO297 := n1_; have HB := n2_; clear n0_ n1_ n2_; (try clear hb); (try clear hb2); (try clear hk); (try clear hi); (try clear ho0)) | (go_at_call 8; refine calls_of_args (args' := #[.string (a0 ++ (⟨#[32, 97]⟩ : ByteArray))]) (by first | rfl) ?_; (with_reducible refine (lex_Scan.calls kj4 (a0 ++ (⟨#[32, 97]⟩ : ByteArray)) t298 t299 t300 _ A20.out (Tabs.below HT.out (by repeat (first | (with_reducible first | exact HB.out | apply below_alloc | apply pw_below_drewN | apply below_drew1) | exact HB.out)))).mono ?_); rintro e w26 ⟨v301, rfl, ho0, hb⟩; have n0_ := Aside0.mk (Kd.R_elder' (by (with_reducible repeat (first | apply Kd.R_alloc | apply Kd.R_drewN | apply Kd.R_drew)); exact HO_3.out) (Kd.R_base ho0) hb); have n1_ := Aside0.mk (Kd.R_elder' (by (with_reducible repeat (first | apply Kd.R_alloc | apply Kd.R_drewN | apply Kd.R_drew)); exact HO297.out) (Kd.R_base ho0) hb); have n2_ := Aside0.mk (Kd.R_lower (Kd.R_new' (Kd.R_new' ho0 (Kd.R_lt (by (with_reducible repeat (first | apply Kd.R_alloc | apply Kd.R_drewN | apply Kd.R_drew)); exact HO_3.out))) (Kd.R_lt (by (with_reducible repeat (first | apply Kd.R_alloc | apply Kd.R_drewN | apply Kd.R_drew)); exact HO297.out))) (below_size (by repeat (first | (with_reducible first | exact HB.out | apply below_alloc | apply pw_below_drewN | apply below_drew1) | exact HB.out)))); have n3_ := Aside0.mk (below_step (by repeat (first | (with_reducible first | exact HB.out | apply below_alloc | apply pw_below_drewN | apply below_drew1) | exact HB.out)) hb); clear HO_3; clear HO297; clear HB; have HO_3 := n0_; have HO297 := n1_; have HO302 := n2_; have HB := n3_; clear n0_ n1_ n2_ n3_; (try clear hb); (try clear hb2); (try clear hk); (try clear hi); (try clear ho0))); try go_wp2_with (first | (go_at_call 8; refine calls_of_args (args' := #[.string (a0.extract 0 (t287 : Int).toNat)]) (by first | rfl) ?_; (with_reducible refine (lex_Scan.calls kj4 (a0.extract 0 (t287 : Int).toNat) t293 t294 t295 _ A18.out (Tabs.below HT.out (by repeat (first | (with_reducible first | exact HB.out | apply below_alloc | apply pw_below_drewN | apply below_drew1) | exact HB.out)))).mono ?_); rintro e w25 ⟨v296, rfl, ho0, hb⟩; have n0_ := Aside0.mk (Kd.R_elder' (by (with_reducible repeat (first | apply Kd.R_alloc | apply Kd.R_drewN | apply Kd.R_drew)); exact HO_3.out) (Kd.R_base ho0) hb); have n1_ := Aside0.mk (Kd.R_lower (Kd.R_new' ho0 (Kd.R_lt (by (with_reducible repeat (first | apply Kd.R_alloc | apply Kd.R_drewN | apply Kd.R_drew)); exact HO_3.out))) (below_size (by repeat (first | (with_reducible first | exact HB.out | apply below_alloc | apply pw_below_drewN | apply below_drew1) | exact HB.out)))); have n2_ := Aside0.mk (below_step (by repeat (first | (with_reducible first | exact HB.out | apply below_alloc | apply pw_below_drewN | apply below_drew1) | exact HB.out)) hb); clear HO_3; clear HB; have HO_3 := n0_; have HO297 := n1_; have HB := n2_; clear n0_ n1_ n2_; (try clear hb); (try clear hb2); (try clear hk); (try clear hi); (try clear ho0)) | (go_at_call 8; refine calls_of_args (args' := #[.string (a0 ++ (⟨#[32, 97]⟩ : ByteArray))]) (by first | rfl) ?_; (with_reducible refine (lex_Scan.calls kj4 (a0 ++ (⟨#[32, 97]⟩ : ByteArray)) t298 t299 t300 _ A20.out (Tabs.below HT.out (by repeat (first | (with_reducible first | exact HB.out | apply below_alloc | apply pw_below_drewN | apply below_drew1) | exact HB.out)))).mono ?_); rintro e w26 ⟨v301, rfl, ho0, hb⟩; have n0_ := Aside0.mk (Kd.R_elder' (by (with_reducible repeat (first | apply Kd.R_alloc | apply Kd.R_drewN | apply Kd.R_drew)); exact HO_3.out) (Kd.R_base ho0) hb); have n1_ := Aside0.mk (Kd.R_elder' (by (with_reducible repeat (first | apply Kd.R_alloc | apply Kd.R_drewN | apply Kd.R_drew)); exact HO297.out) (Kd.R_base ho0) hb); have n2_ := Aside0.mk (Kd.R_lower (Kd.R_new' (Kd.R_new' ho0 (Kd.R_lt (by (with_reducible repeat (first | apply Kd.R_alloc | apply Kd.R_drewN | apply Kd.R_drew)); exact HO_3.out))) (Kd.R_lt (by (with_reducible repeat (first | apply Kd.R_alloc | apply Kd.R_drewN | apply Kd.R_drew)); exact HO297.out))) (below_size (by repeat (first | (with_reducible first | exact HB.out | apply below_alloc | apply pw_below_drewN | apply below_drew1) | exact HB.out)))); have n3_ := Aside0.mk (below_step (by repeat (first | (with_reducible first | exact HB.out | apply below_alloc | apply pw_below_drewN | apply below_drew1) | exact HB.out)) hb); clear HO_3; clear HO297; clear HB; have HO_3 := n0_; have HO297 := n1_; have HO302 := n2_; have HB := n3_; clear n0_ n1_ n2_ n3_; (try clear hb); (try clear hb2); (try clear hk); (try clear hi); (try clear ho0))))
                      go_ret
                      exact ⟨by first | rfl | (simp [errW_none, errW_some] <;> rfl) | (simp [*, errW_none, errW_some] <;> rfl), by repeat (first | (with_reducible first | exact HB.out | apply below_alloc | apply pw_below_drewN | apply below_drew1) | exact HB.out)⟩
                  · rw [if_neg c21] at H
                    exact absurd H (by simp)
                · rw [if_neg c19] at H
                  exact absurd H (by simp)
              · rw [if_neg c17] at H
                exact absurd H (by simp)
            · rw [if_neg c16] at H
              exact absurd H (by simp)
          · rw [if_neg c15] at H
            have c15b0 : (t288 == 24) = false := beq_eq_false_iff_ne.mpr c15
            have c15b1 : (t288 != 24) = true := bne_iff_ne.mpr c15
            by_cases c27 : 2 + a0.size ≤ 9223372036854775807
            · rw [if_pos c27] at H
              have c27b0 := eq_true c27
              have c27b1 : decide (2 + a0.size ≤ 9223372036854775807) = true := decide_eq_true c27
              try have c27b2 : (9223372036854775807 < 2 + a0.size) = False := eq_false (Nat.not_lt.2 c27)
              try (have c27s := c27; simp only [ByteArray.size_append, bsize_mk, List.size_toArray, List.length_cons, List.length_nil, Nat.reduceAdd, Nat.zero_add] at c27s)
              try have c27s2 := eq_false (Nat.not_lt.2 c27s)
              by_cases c28 : ((⟨#[32, 9]⟩ : ByteArray) ++ a0).size + 1 ≤ 9223372036854775807
              · rw [if_pos c28] at H
                have c28b0 := eq_true c28
                have c28b1 : decide (((⟨#[32, 9]⟩ : ByteArray) ++ a0).size + 1 ≤ 9223372036854775807) = true := decide_eq_true c28
                try have c28b2 : (9223372036854775807 < ((⟨#[32, 9]⟩ : ByteArray) ++ a0).size + 1) = False := eq_false (Nat.not_lt.2 c28)
                try (have c28s := c28; simp only [ByteArray.size_append, bsize_mk, List.size_toArray, List.length_cons, List.length_nil, Nat.reduceAdd, Nat.zero_add] at c28s)
                try have c28s2 := eq_false (Nat.not_lt.2 c28s)
                replace H := Option.bind_eq_some_iff.mp H
                obtain ⟨⟨t303, t304, t305⟩, A290, H⟩ := H
                replace H : (if t305 = 0 then (switchyardlaw07_LexCuts.j1 kj4 t286 t303 ((t303.length : Int) != (t286.length : Int))) else (switchyardlaw07_LexCuts.j1 kj4 t286 t303 true)) = some r := H
                have A29 := Aside0.mk A290
                clear A290
                have HC30 := Aside0.mk H
                clear H
                go_upto_region 11 with (first | (go_at_call 8; refine calls_of_args (args' := #[.string (((⟨#[32, 9]⟩ : ByteArray) ++ a0) ++ (⟨#[10]⟩ : ByteArray))]) (by first | rfl) ?_; (with_reducible refine (lex_Scan.calls kj4 (((⟨#[32, 9]⟩ : ByteArray) ++ a0) ++ (⟨#[10]⟩ : ByteArray)) t303 t304 t305 _ A29.out (Tabs.below HT.out (by repeat (first | (with_reducible first | exact HB.out | apply below_alloc | apply pw_below_drewN | apply below_drew1) | exact HB.out)))).mono ?_); rintro e w31 ⟨v306, rfl, ho0, hb⟩; have n0_ := Aside0.mk (Kd.R_elder' (by (with_reducible repeat (first | apply Kd.R_alloc | apply Kd.R_drewN | apply Kd.R_drew)); exact HO_3.out) (Kd.R_base ho0) hb); have n1_ := Aside0.mk (Kd.R_lower (Kd.R_new' ho0 (Kd.R_lt (by (with_reducible repeat (first | apply Kd.R_alloc | apply Kd.R_drewN | apply Kd.R_drew)); exact HO_3.out))) (below_size (by repeat (first | (with_reducible first | exact HB.out | apply below_alloc | apply pw_below_drewN | apply below_drew1) | exact HB.out)))); have n2_ := Aside0.mk (below_step (by repeat (first | (with_reducible first | exact HB.out | apply below_alloc | apply pw_below_drewN | apply below_drew1) | exact HB.out)) hb); clear HO_3; clear HB; have HO_3 := n0_; have HO307 := n1_; have HB := n2_; clear n0_ n1_ n2_; (try clear hb); (try clear hb2); (try clear hk); (try clear hi); (try clear ho0)))
                repeat (go_quiet (first | (go_at_call 8; refine calls_of_args (args' := #[.string (((⟨#[32, 9]⟩ : ByteArray) ++ a0) ++ (⟨#[10]⟩ : ByteArray))]) (by first | rfl) ?_; (with_reducible refine (lex_Scan.calls kj4 (((⟨#[32, 9]⟩ : ByteArray) ++ a0) ++ (⟨#[10]⟩ : ByteArray)) t303 t304 t305 _ A29.out (Tabs.below HT.out (by repeat (first | (with_reducible first | exact HB.out | apply below_alloc | apply pw_below_drewN | apply below_drew1) | exact HB.out)))).mono ?_); rintro e w31 ⟨v306, rfl, ho0, hb⟩; have n0_ := Aside0.mk (Kd.R_elder' (by (with_reducible repeat (first | apply Kd.R_alloc | apply Kd.R_drewN | apply Kd.R_drew)); exact HO_3.out) (Kd.R_base ho0) hb); have n1_ := Aside0.mk (Kd.R_lower (Kd.R_new' ho0 (Kd.R_lt (by (with_reducible repeat (first | apply Kd.R_alloc | apply Kd.R_drewN | apply Kd.R_drew)); exact HO_3.out))) (below_size (by repeat (first | (with_reducible first | exact HB.out | apply below_alloc | apply pw_below_drewN | apply below_drew1) | exact HB.out)))); have n2_ := Aside0.mk (below_step (by repeat (first | (with_reducible first | exact HB.out | apply below_alloc | apply pw_below_drewN | apply below_drew1) | exact HB.out)) hb); clear HO_3; clear HB; have HO_3 := n0_; have HO307 := n1_; have HB := n2_; clear n0_ n1_ n2_; (try clear hb); (try clear hb2); (try clear hk); (try clear hi); (try clear ho0))); go_upto_region 11 with (first | (go_at_call 8; refine calls_of_args (args' := #[.string (((⟨#[32, 9]⟩ : ByteArray) ++ a0) ++ (⟨#[10]⟩ : ByteArray))]) (by first | rfl) ?_; (with_reducible refine (lex_Scan.calls kj4 (((⟨#[32, 9]⟩ : ByteArray) ++ a0) ++ (⟨#[10]⟩ : ByteArray)) t303 t304 t305 _ A29.out (Tabs.below HT.out (by repeat (first | (with_reducible first | exact HB.out | apply below_alloc | apply pw_below_drewN | apply below_drew1) | exact HB.out)))).mono ?_); rintro e w31 ⟨v306, rfl, ho0, hb⟩; have n0_ := Aside0.mk (Kd.R_elder' (by (with_reducible repeat (first | apply Kd.R_alloc | apply Kd.R_drewN | apply Kd.R_drew)); exact HO_3.out) (Kd.R_base ho0) hb); have n1_ := Aside0.mk (Kd.R_lower (Kd.R_new' ho0 (Kd.R_lt (by (with_reducible repeat (first | apply Kd.R_alloc | apply Kd.R_drewN | apply Kd.R_drew)); exact HO_3.out))) (below_size (by repeat (first | (with_reducible first | exact HB.out | apply below_alloc | apply pw_below_drewN | apply below_drew1) | exact HB.out)))); have n2_ := Aside0.mk (below_step (by repeat (first | (with_reducible first | exact HB.out | apply below_alloc | apply pw_below_drewN | apply below_drew1) | exact HB.out)) hb); clear HO_3; clear HB; have HO_3 := n0_; have HO307 := n1_; have HB := n2_; clear n0_ n1_ n2_; (try clear hb); (try clear hb2); (try clear hk); (try clear hi); (try clear ho0))))
                (try simp only [Act.put, List.setIfInBounds_toArray, List.set_cons_zero, List.set_cons_succ])
                go_cut [76] (fun v76 wc => ∃ (kq : Nat) (x76_29 : Bool), v76 = .bool x76_29 ∧ Aside0 (switchyardlaw07_LexCuts.j1 kq t286 t303 x76_29 = some r) ∧ Aside0 (kq ≤ kj4) ∧ Aside0 (Kd.R k32 32 wc w.heap.size (fun k_ => some k_ ≠ (v306 : Value).ownBlock) v289 t286) ∧ Aside0 (Kd.R k32 32 wc w.heap.size (fun k_ => some k_ ≠ (v289 : Value).ownBlock) v306 t303) ∧ Aside0 (Below w.heap.size w wc))
                case first =>
                  have H := HC30.out
                  clear HC30
                  by_cases c32 : t305 = 0
                  · rw [if_pos c32] at H
                    have c32b0 : (t305 == 0) = true := beq_iff_eq.mpr c32
                    have c32b1 : (t305 != 0) = false := bne_eq_false_iff_eq.mpr c32
                    clear c32
                    (first | rw [c32b0] | (simp only [i64_w, i32_w]; rw [c32b0]) | skip)
                    have H' := Aside0.mk H
                    clear H
                    obtain ⟨Ao33, co33, eo33⟩ := Kd.R_slice HO307.out
                    subst eo33
                    obtain ⟨Ao34, co34, eo34⟩ := Kd.R_slice HO_3.out
                    subst eo34
                    go_wp2
                    repeat (go_quiet (fail); try go_wp2)
                    go_meet
                    case rel => exact ⟨_, (((t303.length : Int) != (t286.length : Int))), (by first | rfl | (simp; done) | (simp [*]; done)), H', ⟨by have := HJ4.out; first | omega | exact Nat.le_refl _⟩, ⟨by (with_reducible repeat (first | apply Kd.R_alloc | apply Kd.R_drewN | apply Kd.R_drew)); exact Kd.R_mono HO_3.out (fun _ hk => hk.2)⟩, ⟨by (with_reducible repeat (first | apply Kd.R_alloc | apply Kd.R_drewN | apply Kd.R_drew)); exact Kd.R_mono HO307.out (fun _ hk => hk.2)⟩, ⟨by repeat (first | (with_reducible first | exact HB.out | apply below_alloc | apply pw_below_drewN | apply below_drew1) | exact HB.out)⟩⟩
                  · rw [if_neg c32] at H
                    have c32b0 : (t305 == 0) = false := beq_eq_false_iff_ne.mpr c32
                    have c32b1 : (t305 != 0) = true := bne_iff_ne.mpr c32
                    (first | rw [c32b0] | (simp only [i64_w, i32_w]; rw [c32b0]) | skip)
                    have H' := Aside0.mk H
                    clear H
                    go_wp2
                    repeat (go_quiet (fail); try go_wp2)
                    go_meet
                    case rel => exact ⟨_, (true), (by first | rfl | (simp; done) | (simp [*]; done)), H', ⟨by have := HJ4.out; first | omega | exact Nat.le_refl _⟩, ⟨by (with_reducible repeat (first | apply Kd.R_alloc | apply Kd.R_drewN | apply Kd.R_drew)); exact Kd.R_mono HO_3.out (fun _ hk => hk.2)⟩, ⟨by (with_reducible repeat (first | apply Kd.R_alloc | apply Kd.R_drewN | apply Kd.R_drew)); exact Kd.R_mono HO307.out (fun _ hk => hk.2)⟩, ⟨by repeat (first | (with_reducible first | exact HB.out | apply below_alloc | apply pw_below_drewN | apply below_drew1) | exact HB.out)⟩⟩
                case rest =>
                  clear HC30
                  try clear c1
                  try clear c2
                  try clear p2
                  try clear c3
                  try clear c4
                  try clear c9
                  try clear c12
                  try clear c15
                  try clear c15b0
                  try clear c15b1
                  try clear c16
                  try clear c16b0
                  try clear c16b1
                  try clear c17
                  try clear c17b0
                  try clear c17b1
                  try clear c19
                  try clear c19b0
                  try clear c19b1
                  try clear c19b2
                  try clear c21
                  try clear c21b0
                  try clear c21b1
                  try clear c22
                  try clear c22b0
                  try clear c22b1
                  try clear c27
                  try clear c27b0
                  try clear c27b1
                  try clear c27b2
                  try clear c28
                  try clear c28b0
                  try clear c28b1
                  try clear c28b2
                  try clear c32
                  try clear c32b0
                  try clear c32b1
                  try clear p2
                  obtain ⟨kq, x76_29, rfl, HA, HJ29, HO_3, HO_12, HB⟩ := hcut
                  cases kq with
                  | zero => exact absurd HA.out (by simp [switchyardlaw07_LexCuts.j1])
                  | succ kj29 =>
                    have H := HA.out
                    clear HA
                    simp only [switchyardlaw07_LexCuts.j1] at H
                    by_cases c35 : x76_29 = true
                    · subst c35
                      have H1 : (none) = some r := by rw [if_pos rfl] at H; exact H
                      clear H
                      have H := H1
                      clear H1
                      exact absurd H (by simp)
                    · replace c35 := Bool.eq_false_iff.mpr c35
                      subst c35
                      have H1 : (switchyardlaw07_LexCuts.l0 kj29 t286 t303 (wrap64 ((t286.length : Int) - 1)) 0) = some r := by rw [if_neg (show ¬ (false = true) by decide)] at H; exact H
                      clear H
                      have H := H1
                      clear H1
                      have H' := Aside0.mk H
                      clear H
                      obtain ⟨Ao36, co36, eo36⟩ := Kd.R_slice HO_3.out
                      subst eo36
                      go_wp2
                      repeat (go_quiet (fail); try go_wp2)
                      go_loopg [80] kj29 (fun kq v80 w' => ∃ (x80_3 : Int), v80 = .int .i64 x80_3 ∧ Aside0 (switchyardlaw07_LexCuts.l0 kq t286 t303 (wrap64 ((t286.length : Int) - 1)) x80_3 = some r) ∧ Aside0 (kq ≤ kj29) ∧ Aside0 (Kd.R k32 32 w' w.heap.size (fun k_ => some k_ ≠ (v306 : Value).ownBlock) (.slice Ao36 t286.length co36) t286) ∧ Aside0 (Kd.R k32 32 w' w.heap.size (fun k_ => some k_ ≠ ((.slice Ao36 t286.length co36) : Value).ownBlock) v306 t303) ∧ Aside0 (Below w.heap.size w w'))
                      case atStart => exact ⟨(0), (by first | rfl | (simp; done) | (simp [*]; done)), H', ⟨Nat.le_refl _⟩, ⟨by (with_reducible repeat (first | apply Kd.R_alloc | apply Kd.R_drewN | apply Kd.R_drew)); exact HO_3.out⟩, ⟨by (with_reducible repeat (first | apply Kd.R_alloc | apply Kd.R_drewN | apply Kd.R_drew)); exact HO_12.out⟩, ⟨by repeat (first | (with_reducible first | exact HB.out | apply below_alloc | apply pw_below_drewN | apply below_drew1) | exact HB.out)⟩⟩
                      case round =>
                        clear H'
                        try clear c1
                        try clear c2
                        try clear p2
                        try clear c3
                        try clear c4
                        try clear p6
                        try clear c9
                        try clear c12
                        try clear c15
                        try clear c15b0
                        try clear c15b1
                        try clear c16
                        try clear c16b0
                        try clear c16b1
                        try clear c17
                        try clear c17b0
                        try clear c17b1
                        try clear c19
                        try clear c19b0
                        try clear c19b1
                        try clear c19b2
                        try clear c21
                        try clear c21b0
                        try clear c21b1
                        try clear c22
                        try clear c22b0
                        try clear c22b1
                        try clear c27
                        try clear c27b0
                        try clear c27b1
                        try clear c27b2
                        try clear c28
                        try clear c28b0
                        try clear c28b1
                        try clear c28b2
                        try clear c32
                        try clear c32b0
                        try clear c32b1
                        try clear c35
                        try clear p2
                        obtain ⟨x80_3, rfl, HA, HK3, HO_3, HO_12, HB⟩ := hrel
                        cases gk with
                        | zero => exact absurd HA.out (by simp [switchyardlaw07_LexCuts.l0])
                        | succ k3 =>
                          have H := HA.out
                          clear HA
                          simp only [switchyardlaw07_LexCuts.l0] at H
                          by_cases c37 : x80_3 < (wrap64 ((t286.length : Int) - 1))
                          · rw [if_pos c37] at H
                            have c37b0 : decide (x80_3 < (wrap64 ((t286.length : Int) - 1))) = true := decide_eq_true c37
                            clear c37
                            by_cases c38 : 0 ≤ x80_3
                            · rw [if_pos c38] at H
                              have c38b0 : decide (0 ≤ x80_3) = true := decide_eq_true c38
                              clear c38
                              by_cases c39 : x80_3 < (t303.length : Int)
                              · rw [if_pos c39] at H
                                have c39b0 : decide (x80_3 < (t303.length : Int)) = true := decide_eq_true c39
                                clear c39
                                by_cases c40 : x80_3 < (t286.length : Int)
                                · rw [if_pos c40] at H
                                  have c40b0 : decide (x80_3 < (t286.length : Int)) = true := decide_eq_true c40
                                  clear c40
                                  by_cases c41 : ((rd_T32 t303 x80_3).f3) = (wrap64 (((rd_T32 t286 x80_3).f3) + 2))
                                  · rw [if_pos c41] at H
                                    have c41b0 : (((rd_T32 t303 x80_3).f3) == (wrap64 (((rd_T32 t286 x80_3).f3) + 2))) = true := beq_iff_eq.mpr c41
                                    have c41b1 : (((rd_T32 t303 x80_3).f3) != (wrap64 (((rd_T32 t286 x80_3).f3) + 2))) = false := bne_eq_false_iff_eq.mpr c41
                                    clear c41
                                    by_cases c42 : ((rd_T32 t303 x80_3).f1).toList = ((rd_T32 t286 x80_3).f1).toList
                                    · rw [if_pos c42] at H
                                      have c42b0 : (((rd_T32 t303 x80_3).f1).toList == ((rd_T32 t286 x80_3).f1).toList) = true := beq_iff_eq.mpr c42
                                      have c42b1 : (((rd_T32 t303 x80_3).f1).toList != ((rd_T32 t286 x80_3).f1).toList) = false := bne_eq_false_iff_eq.mpr c42
                                      clear c42
                                      have H' := Aside0.mk H
                                      clear H
                                      obtain ⟨Ao43, co43, eo43⟩ := Kd.R_slice HO_12.out
                                      subst eo43
                                      have p308 : 0 ≤ (x80_3 : Int) := of_decide_eq_true (by first | (with_reducible assumption) | assumption)
                                      have q308 : x80_3 < (t303.length : Int) := of_decide_eq_true (by first | (with_reducible assumption) | assumption)
                                      obtain ⟨ad308, e308, hx308_0, hx308_1, hx308_2, hx308_3⟩ := at_T32 (Kd.R_reads' HO_12.out).2.2 x80_3 p308 q308
                                      cases e308
                                      replace p308 := eq_true p308
                                      replace q308 := eq_true q308
                                      have p309 : 0 ≤ (x80_3 : Int) := of_decide_eq_true (by first | (with_reducible assumption) | assumption)
                                      have q309 : x80_3 < (t286.length : Int) := of_decide_eq_true (by first | (with_reducible assumption) | assumption)
                                      obtain ⟨ad309, e309, hx309_0, hx309_1, hx309_2, hx309_3⟩ := at_T32 (Kd.R_reads' HO_3.out).2.2 x80_3 p309 q309
                                      cases e309
                                      replace p309 := eq_true p309
                                      replace q309 := eq_true q309
                                      have p310 : 0 ≤ (x80_3 : Int) := of_decide_eq_true (by first | (with_reducible assumption) | assumption)
                                      have q310 : x80_3 < (t303.length : Int) := of_decide_eq_true (by first | (with_reducible assumption) | assumption)
                                      obtain ⟨ad310, e310, hx310_0, hx310_1, hx310_2, hx310_3⟩ := at_T32 (Kd.R_reads' HO_12.out).2.2 x80_3 p310 q310
                                      obtain rfl : ad308 = ad310 := (by injection e310)
                                      replace p310 := eq_true p310
                                      replace q310 := eq_true q310
                                      have p311 : 0 ≤ (x80_3 : Int) := of_decide_eq_true (by first | (with_reducible assumption) | assumption)
                                      have q311 : x80_3 < (t286.length : Int) := of_decide_eq_true (by first | (with_reducible assumption) | assumption)
                                      obtain ⟨ad311, e311, hx311_0, hx311_1, hx311_2, hx311_3⟩ := at_T32 (Kd.R_reads' HO_3.out).2.2 x80_3 p311 q311
                                      obtain rfl : ad309 = ad311 := (by injection e311)
                                      replace p311 := eq_true p311
                                      replace q311 := eq_true q311
                                      go_wp2
                                      repeat (go_quiet (fail); try go_wp2)
                                      go_roundg k3
                                      case measure => have := HJ4.out; have := HJ29.out; have := HK3.out; omega
                                      case rel => exact ⟨(wrap64 (x80_3 + 1)), (by first | rfl | (simp; done) | (simp [*]; done)), H', ⟨by have := HJ4.out; have := HJ29.out; have := HK3.out; omega⟩, ⟨by (with_reducible repeat (first | apply Kd.R_alloc | apply Kd.R_drewN | apply Kd.R_drew)); exact HO_3.out⟩, ⟨by (with_reducible repeat (first | apply Kd.R_alloc | apply Kd.R_drewN | apply Kd.R_drew)); exact HO_12.out⟩, ⟨by repeat (first | (with_reducible first | exact HB.out | apply below_alloc | apply pw_below_drewN | apply below_drew1) | exact HB.out)⟩⟩
                                    · rw [if_neg c42] at H
                                      exact absurd H (by simp)
                                  · rw [if_neg c41] at H
                                    exact absurd H (by simp)
                                · rw [if_neg c40] at H
                                  exact absurd H (by simp)
                              · rw [if_neg c39] at H
                                exact absurd H (by simp)
                            · rw [if_neg c38] at H
                              exact absurd H (by simp)
                          · rw [if_neg c37] at H
                            have c37b0 : decide (x80_3 < (wrap64 ((t286.length : Int) - 1))) = false := decide_eq_false c37
                            clear c37
                            obtain rfl := Option.some.inj H
                            go_wp2
                            repeat (go_quiet (fail); try go_wp2)
                            go_ret
                            exact ⟨by first | rfl | (simp [errW_none, errW_some] <;> rfl) | (simp [*, errW_none, errW_some] <;> rfl), by repeat (first | (with_reducible first | exact HB.out | apply below_alloc | apply pw_below_drewN | apply below_drew1) | exact HB.out)⟩
              · rw [if_neg c28] at H
                exact absurd H (by simp)
            · rw [if_neg c27] at H
              exact absurd H (by simp)
  · replace c3 := Bool.eq_false_iff.mpr c3
    subst c3
    have H1 : (none) = some r := by rw [if_neg (show ¬ (false = true) by decide)] at H; exact H
    clear H
    have H := H1
    clear H1
    exact absurd H (by simp)
end Go.Proofs.YtdjcechogbcdnaaDoor.XL
namespace Go.Proofs.YtdjcechogbcdnaaDoor.XL
open Go.RowKit Go.Proofs.YtdjcechogbcdnaaDoorW.PrintWords Go.Proofs.YtdjcechogbcdnaaDoorW.PrintLast Go.Proofs.YtdjcechogbcdnaaDoorW.PrintMore
set_option linter.unusedVariables false
set_option linter.unusedSimpArgs false
def sh (d : Nat) (t : S32) : S32 := ⟨t.f0, t.f1, t.f2, t.f3 + (d : Int)⟩
def shR (d : Nat) : (List S32) ⊕ Nat → (List S32) ⊕ Nat
  | .inl ts => .inl (ts.map (sh d))
  | .inr e => .inr (e + d)
/-- Ahead of what comes. -/
def onto (t : List S32) : (List S32) ⊕ Nat → (List S32) ⊕ Nat
  | .inl ts => .inl (t ++ ts)
  | .inr e => .inr e
theorem scanW_tok' {a : Nat} {l r : List UInt8} {c : UInt8} {x : Tk} (h : l.drop (bm false l) = c :: r) (hx : tokL (c :: r) = some x) : scanW a l = onto [⟨x.1, mk x.2.1, x.2.2.1, ((a + bm false l : Nat) : Int)⟩] (scanW (a + bm false l + x.2.2.2) ((c :: r).drop x.2.2.2)) := by
  rw [scanW_tok h hx]
  cases scanW (a + bm false l + x.2.2.2) ((c :: r).drop x.2.2.2) <;> rfl
theorem onto_inl {t ts : List S32} {R : (List S32) ⊕ Nat} (h : onto t R = .inl ts) : ∃ us, R = .inl us ∧ ts = t ++ us := by
  cases R with
  | inl us => exact ⟨us, rfl, (Sum.inl.inj h).symm⟩
  | inr e => cases h
theorem onto_inr {t : List S32} {R : (List S32) ⊕ Nat} {e : Nat} (h : onto t R = .inr e) : R = .inr e := by
  cases R with
  | inl us => cases h
  | inr e' => exact congrArg _ (Sum.inr.inj h)
/-- A text is its first token, and a shorter one. -/
theorem scanW_ind {P : Nat → List UInt8 → Prop} (he : ∀ a l, l.drop (bm false l) = [] → P a l) (hb : ∀ a l c r, l.drop (bm false l) = c :: r → tokL (c :: r) = none → P a l)
    (ht : ∀ a l c r x, l.drop (bm false l) = c :: r → tokL (c :: r) = some x → P (a + bm false l + x.2.2.2) ((c :: r).drop x.2.2.2) → P a l) : ∀ (n : Nat) (a : Nat) (l : List UInt8), l.length ≤ n → P a l := by
  intro n
  induction n with
  | zero =>
    intro a l hl
    refine he a l ?_
    obtain rfl : l = [] := List.length_eq_zero_iff.1 (by omega)
    rfl
  | succ n ih =>
    intro a l hl
    cases h : l.drop (bm false l) with
    | nil => exact he a l h
    | cons c r =>
      cases hx : tokL (c :: r) with
      | none => exact hb a l c r h hx
      | some x =>
        obtain ⟨h1, h2⟩ := tok_len _ _ hx
        have hlen := congrArg List.length h
        rw [List.length_drop] at hlen
        exact ht a l c r x h hx (ih _ _ (by rw [List.length_drop]; omega))
theorem scanW_ne {a : Nat} {l : List UInt8} {ts : List S32} (h : scanW a l = .inl ts) : ts ≠ [] := by
  rcases scanW_cases a l with ⟨h1, h2⟩ | ⟨c, r, h1, h2, h3⟩ | ⟨c, r, x, h1, h2⟩
  · rw [h2] at h; rw [← Sum.inl.inj h]; simp
  · rw [h3] at h; cases h
  · rw [scanW_tok' h1 h2] at h
    obtain ⟨us, _, rfl⟩ := onto_inl h
    simp
theorem scanW_shift (d : Nat) (a : Nat) (l : List UInt8) : scanW (a + d) l = shR d (scanW a l) := by
  refine scanW_ind (P := fun a l => scanW (a + d) l = shR d (scanW a l)) ?_ ?_ ?_ l.length a l (Nat.le_refl _)
  · intro a l h
    rw [scanW_end h, scanW_end h]
    simp only [shR, List.map_cons, List.map_nil, sh]
    congr 3; omega
  · intro a l c r h hx
    rw [scanW_bad h hx, scanW_bad h hx]
    simp only [shR]; congr 1; omega
  · intro a l c r x h hx ih
    rw [scanW_tok' h hx, scanW_tok' h hx, show a + d + bm false l + x.2.2.2 = a + bm false l + x.2.2.2 + d by omega, ih]
    cases scanW (a + bm false l + x.2.2.2) ((c :: r).drop x.2.2.2) with
    | inl us =>
      simp only [onto, shR, List.cons_append, List.nil_append, List.map_cons, sh]
      congr 3; omega
    | inr e => rfl
theorem scanW_ge (a : Nat) (l : List UInt8) : ∀ e, scanW a l = .inr e → a + bm false l ≤ e := by
  refine scanW_ind (P := fun a l => ∀ e, scanW a l = .inr e → a + bm false l ≤ e) ?_ ?_ ?_ l.length a l (Nat.le_refl _)
  · intro a l h e he
    rw [scanW_end h] at he; cases he
  · intro a l c r h hx e he
    rw [scanW_bad h hx] at he
    have := Sum.inr.inj he; omega
  · intro a l c r x h hx ih e he
    rw [scanW_tok' h hx] at he
    have := ih e (onto_inr he)
    omega
theorem scanW_at (a : Nat) (l : List UInt8) : ∀ ts, scanW a l = .inl ts → ∀ t ∈ ts, 0 ≤ t.f3 ∧ t.f3 ≤ ((a + l.length : Nat) : Int) := by
  refine scanW_ind (P := fun a l => ∀ ts, scanW a l = .inl ts → ∀ t ∈ ts, 0 ≤ t.f3 ∧ t.f3 ≤ ((a + l.length : Nat) : Int)) ?_ ?_ ?_ l.length a l (Nat.le_refl _)
  · intro a l h ts hs t ht
    rw [scanW_end h] at hs
    rw [← Sum.inl.inj hs, List.mem_singleton] at ht
    have := bm_le false l
    subst ht
    simp only; omega
  · intro a l c r h hx ts hs
    rw [scanW_bad h hx] at hs; cases hs
  · intro a l c r x h hx ih ts hs t ht
    rw [scanW_tok' h hx] at hs
    obtain ⟨us, hu, rfl⟩ := onto_inl hs
    obtain ⟨h1, h2⟩ := tok_len _ _ hx
    have hlen := congrArg List.length h
    rw [List.length_drop] at hlen
    have hb := bm_le false l
    rw [List.cons_append, List.nil_append, List.mem_cons] at ht
    rcases ht with rfl | ht
    · simp only; omega
    · have := ih us hu t ht
      rw [List.length_drop] at this
      omega
theorem drop_gap {l y : List UInt8} {c : UInt8} {r : List UInt8} (hy : Gap y) (h : l.drop (bm false l) = c :: r) : bm false (l ++ y) = bm false l ∧ (l ++ y).drop (bm false (l ++ y)) = c :: (r ++ y) := by
  have hlen := congrArg List.length h
  rw [List.length_drop, List.length_cons] at hlen
  have hb := bm_gap false l y hy (by omega)
  refine ⟨hb, ?_⟩
  rw [hb, List.drop_append_of_le_length (by omega), h]; rfl
/-- A new line, and another text behind a text of tokens. -/
theorem scanW_glue (z : List UInt8) (a : Nat) (l : List UInt8) : ∀ ts, scanW a l = .inl ts → scanW a (l ++ 10 :: z) = onto ts.dropLast (scanW (a + l.length + 1) z) := by
  refine scanW_ind (P := fun a l => ∀ ts, scanW a l = .inl ts → scanW a (l ++ 10 :: z) = onto ts.dropLast (scanW (a + l.length + 1) z)) ?_ ?_ ?_ l.length a l (Nat.le_refl _)
  · intro a l h ts hs
    rw [scanW_end h] at hs
    rw [← Sum.inl.inj hs]
    have hle := bm_le false l
    have hl : bm false l = l.length := by
      have := congrArg List.length h
      rw [List.length_drop, List.length_nil] at this; omega
    have hb := bm_full false l z hl
    have hbz := bm_le false z
    have hd : (l ++ 10 :: z).drop (l.length + 1 + bm false z) = z.drop (bm false z) := by
      rw [Nat.add_assoc, ← List.drop_drop, List.drop_left, Nat.add_comm 1, List.drop_succ_cons]
    have e : scanW a (l ++ 10 :: z) = scanW (a + l.length + 1) z := by
      unfold scanW
      rw [hb, hd, show a + (l.length + 1 + bm false z) = a + l.length + 1 + bm false z by omega]
      apply scanF_fuel
      · rw [List.length_drop, List.length_append, List.length_cons]; omega
      · rw [List.length_drop]; omega
    rw [e]
    cases scanW (a + l.length + 1) z <;> rfl
  · intro a l c r h hx ts hs
    rw [scanW_bad h hx] at hs; cases hs
  · intro a l c r x h hx ih ts hs
    rw [scanW_tok' h hx] at hs
    obtain ⟨us, hu, rfl⟩ := onto_inl hs
    have gy : Gap (10 :: z) := Or.inr ⟨10, z, rfl, by decide⟩
    obtain ⟨hb, hd⟩ := drop_gap gy h
    have hx2 : tokL (c :: (r ++ 10 :: z)) = some x := by
      have := tok_gap gy hx
      exact this
    obtain ⟨h1, h2⟩ := tok_len _ _ hx
    have hlen := congrArg List.length h
    rw [List.length_drop] at hlen
    have hb2 := bm_le false l
    have hsub : (c :: (r ++ 10 :: z)).drop x.2.2.2 = (c :: r).drop x.2.2.2 ++ 10 :: z := by
      rw [← List.cons_append, List.drop_append_of_le_length h2]
    rw [scanW_tok' hd hx2, hb, hsub, ih us hu]
    have hl2 : a + bm false l + x.2.2.2 + ((c :: r).drop x.2.2.2).length + 1 = a + l.length + 1 := by
      rw [List.length_drop]; omega
    rw [hl2]
    have hne := scanW_ne hu
    have hdl : (([⟨x.1, mk x.2.1, x.2.2.1, ((a + bm false l : Nat) : Int)⟩] : List S32) ++ us).dropLast = ⟨x.1, mk x.2.1, x.2.2.1, ((a + bm false l : Nat) : Int)⟩ :: us.dropLast := by
      rw [List.cons_append, List.nil_append, List.dropLast_cons_of_ne_nil hne]
    rw [hdl]
    cases scanW (a + l.length + 1) z <;> rfl
/-- What isn't a text of tokens is none with something behind it, from there on. -/
theorem scanW_err {y : List UInt8} (hy : Gap y) (a : Nat) (l : List UInt8) : ∀ e, scanW a l = .inr e → ∀ e', scanW a (l ++ y) = .inr e' → e ≤ e' := by
  refine scanW_ind (P := fun a l => ∀ e, scanW a l = .inr e → ∀ e', scanW a (l ++ y) = .inr e' → e ≤ e') ?_ ?_ ?_ l.length a l (Nat.le_refl _)
  · intro a l h e he
    rw [scanW_end h] at he; cases he
  · intro a l c r h hx e he e' he'
    rw [scanW_bad h hx] at he
    have h1 := Sum.inr.inj he
    have h2 := scanW_ge _ _ _ he'
    rw [(drop_gap hy h).1] at h2
    omega
  · intro a l c r x h hx ih e he e' he'
    obtain ⟨hb, hd⟩ := drop_gap hy h
    have hx2 : tokL (c :: (r ++ y)) = some x := tok_gap hy hx
    obtain ⟨h1, h2⟩ := tok_len _ _ hx
    have hsub : (c :: (r ++ y)).drop x.2.2.2 = (c :: r).drop x.2.2.2 ++ y := by
      rw [← List.cons_append, List.drop_append_of_le_length h2]
    rw [scanW_tok' h hx] at he
    rw [scanW_tok' hd hx2, hb, hsub] at he'
    exact ih e (onto_inr he) e' (onto_inr he')
/-- What stands ahead of the first thing that is no token is tokens. -/
theorem scanW_cut (a : Nat) (l : List UInt8) : ∀ e, scanW a l = .inr e → e - a ≤ l.length ∧ ∃ ts, scanW a (l.take (e - a)) = .inl ts := by
  refine scanW_ind (P := fun a l => ∀ e, scanW a l = .inr e → e - a ≤ l.length ∧ ∃ ts, scanW a (l.take (e - a)) = .inl ts) ?_ ?_ ?_ l.length a l (Nat.le_refl _)
  · intro a l h e he
    rw [scanW_end h] at he; cases he
  · intro a l c r h hx e he
    rw [scanW_bad h hx] at he
    have h1 := Sum.inr.inj he
    have hb := bm_le false l
    rw [show e - a = bm false l by omega]
    refine ⟨hb, _, scanW_end ?_⟩
    rw [bm_cut false l _ (Nat.le_refl _)]
    exact List.drop_eq_nil_of_le (by rw [List.length_take]; omega)
  · intro a l c r x h hx ih e he
    rw [scanW_tok' h hx] at he
    have hr := onto_inr he
    obtain ⟨i1, us, i2⟩ := ih e hr
    have hge := scanW_ge _ _ _ hr
    obtain ⟨h1, h2⟩ := tok_len _ _ hx
    have hlen := congrArg List.length h
    rw [List.length_drop] at hlen
    rw [List.length_drop] at i1
    have hb := bm_le false l
    refine ⟨by omega, ?_⟩
    have hbc := bm_cut false l (e - a) (by omega)
    have hd : (l.take (e - a)).drop (bm false (l.take (e - a))) = c :: r.take (e - a - bm false l - 1) := by
      rw [hbc, List.drop_take, h]
      obtain ⟨m, hm⟩ : ∃ m, e - a - bm false l = m + 1 := ⟨e - a - bm false l - 1, by omega⟩
      rw [hm, List.take_succ_cons]; rfl
    have hx2 : tokL (c :: r.take (e - a - bm false l - 1)) = some x := by
      have := tok_take (k := e - a - bm false l) hx (by omega)
      obtain ⟨m, hm⟩ : ∃ m, e - a - bm false l = m + 1 := ⟨e - a - bm false l - 1, by omega⟩
      rw [hm, List.take_succ_cons] at this
      rw [hm]; exact this
    have hsub : (c :: r.take (e - a - bm false l - 1)).drop x.2.2.2 = ((c :: r).drop x.2.2.2).take (e - (a + bm false l + x.2.2.2)) := by
      have : c :: r.take (e - a - bm false l - 1) = (c :: r).take (e - a - bm false l) := by
        obtain ⟨m, hm⟩ : ∃ m, e - a - bm false l = m + 1 := ⟨e - a - bm false l - 1, by omega⟩
        rw [hm, List.take_succ_cons]; rfl
      rw [this, List.drop_take]
      congr 1; omega
    exact ⟨_, by rw [scanW_tok' hd hx2, hbc, hsub, i2]; rfl⟩
theorem scanW_blank (a : Nat) (b : UInt8) (l : List UInt8) (h : blankC b = true) : scanW a (b :: l) = scanW (a + 1) l := by
  have hb : bm false (b :: l) = 1 + bm false l := by simp [bm, h]
  have hle := bm_le false l
  unfold scanW
  rw [hb, show a + (1 + bm false l) = a + 1 + bm false l by omega, Nat.add_comm 1 (bm false l), List.drop_succ_cons]
  have hc : (b :: l).length = l.length + 1 := rfl
  apply scanF_fuel <;> rw [List.length_drop] <;> omega
theorem scan_some (l : List UInt8) : ∃ R, Ev (fun k => lex_Scan.f k (mk l)) R := by
  by_cases h : l.length ≤ 8000
  · exact ⟨_, scan_ev l h⟩
  · exact ⟨_, scan_long l h⟩
theorem cuts_loop (ts m : List S32) (hts : ts.length ≤ 8001) (hlen : m.length = ts.length) (hm : ∀ i (h : i < ts.length - 1), m[i]'(by omega) = sh 2 (ts[i]'(by omega))) (hat : ∀ t ∈ ts, 0 ≤ t.f3 ∧ t.f3 ≤ 8000) : ∀ d i : Nat, i + d = ts.length - 1 → Ev (fun k => switchyardlaw07_LexCuts.l0 k ts m ((ts.length - 1 : Nat) : Int) (i : Int)) true := by
  intro d
  induction d with
  | zero =>
    intro i hi
    exact Ev.step (fun k => by simp only [switchyardlaw07_LexCuts.l0]; rfl) (Ev.neg (by omega) (Ev.now _))
  | succ d ih =>
    intro i hi
    have h1 : i < ts.length - 1 := by omega
    have h2 : i < ts.length := by omega
    have h3 : i < m.length := by omega
    have hb := hat _ (List.getElem_mem h2)
    refine Ev.step (fun k => by simp only [switchyardlaw07_LexCuts.l0]; rfl) ?_
    rw [rdT_at _ _ h2, rdT_at _ _ h3, hm i h1, wr_succ h1 (by omega), w_id (x := ts[i].f3 + 2) (by omega) (by omega)]
    exact Ev.pos (by omega) (Ev.pos (by omega) (Ev.pos (by omega) (Ev.pos (by omega) (Ev.pos rfl (Ev.pos rfl (ih (i + 1) (by omega)))))))
theorem lexCuts_ev (a0 : ByteArray) : Ev (fun k => switchyardlaw07_LexCuts.f k a0) true := by
  rw [← mk_data a0]
  generalize a0.data.toList = l
  have long : ∀ (R : List S32 × Int × Int), Ev (fun k => switchyardlaw07_LexCuts.j0 k (mk l) R.1 R.2.1 R.2.2 true) true := by
    intro R
    refine Ev.step (fun k => by simp only [switchyardlaw07_LexCuts.j0]; rfl) ?_
    exact Ev.pos (by trivial) (Ev.bind awake_ev (Ev.now _))
  unfold switchyardlaw07_LexCuts.f
  refine Ev.bind awake_ev (Ev.pos rfl ?_)
  by_cases h7 : l.length ≤ 7000
  · refine Ev.bind (scan_ev l (by omega)) (Ev.bind awake_ev (Ev.pos rfl ?_))
    rw [show decide (((mk l).size : Int) > 7000) = false from decide_eq_false (by rw [mk_size]; omega)]
    rw [scanW_zero]
    refine Ev.step (fun k => by simp only [switchyardlaw07_LexCuts.j0]; rfl) ?_
    refine Ev.neg (by simp) ?_
    cases hs : scanW 0 l with
    | inr e =>
      obtain ⟨h1, ts, h2⟩ := scanW_cut 0 l e hs
      rw [Nat.sub_zero] at h1 h2
      refine Ev.pos rfl (Ev.pos (by simp only [scanRes]; omega) (Ev.pos (by simp only [scanRes]; rw [mk_size]; omega) ?_))
      have hx : (mk l).extract 0 ((scanRes [] (.inr e : (List S32) ⊕ Nat)).2.1).toNat = mk (l.take e) := by
        simp only [scanRes]; rw [Int.toNat_natCast, mk_take]
      rw [hx]
      have q1 := scan_ev (l.take e) (by rw [List.length_take]; omega)
      rw [scanW_zero, h2] at q1
      have hap : mk l ++ (⟨#[32, 97]⟩ : ByteArray) = mk (l ++ [32, 97]) := mk_append l [32, 97]
      refine Ev.bind q1 (Ev.pos (by rw [mk_size]; omega) ?_)
      rw [hap]
      have q2 := scan_ev (l ++ [32, 97]) (by rw [List.length_append]; simp; omega)
      rw [scanW_zero] at q2
      refine Ev.bind q2 (Ev.pos rfl ?_)
      cases hs2 : scanW 0 (l ++ [32, 97]) with
      | inl us => exact Ev.pos rfl (Ev.now _)
      | inr e' =>
        have := scanW_err (y := [32, 97]) (Or.inr ⟨32, [97], rfl, by decide⟩) 0 l e hs e' hs2
        refine Ev.neg (by simp [scanRes]) (Ev.val ?_)
        exact decide_eq_true (by simp only [scanRes]; omega)
    | inl ts =>
      refine Ev.neg (by simp [scanRes]) (Ev.pos (by rw [mk_size]; omega) (Ev.pos (by
        have e : (⟨#[32, 9]⟩ : ByteArray) ++ mk l = mk ([32, 9] ++ l) := mk_append [32, 9] l
        rw [e, mk_size, List.length_append]; simp; omega) ?_))
      have hap : ((⟨#[32, 9]⟩ : ByteArray) ++ mk l) ++ (⟨#[10]⟩ : ByteArray) = mk (32 :: 9 :: (l ++ 10 :: [])) := by
        have e1 : (⟨#[32, 9]⟩ : ByteArray) ++ mk l = mk ([32, 9] ++ l) := mk_append [32, 9] l
        have e2 : mk ([32, 9] ++ l) ++ (⟨#[10]⟩ : ByteArray) = mk (([32, 9] ++ l) ++ [10]) := mk_append _ [10]
        rw [e1, e2]; rfl
      rw [hap]
      have q := scan_ev (32 :: 9 :: (l ++ 10 :: [])) (by simp; omega)
      have hsh : scanW 2 l = .inl (ts.map (sh 2)) := by
        have := scanW_shift 2 0 l
        rw [hs, Nat.zero_add] at this; exact this
      have hnil : ∀ a, scanW a [] = .inl [⟨0, (⟨#[]⟩ : ByteArray), 0, (a : Int)⟩] := fun a => by
        have := scanW_end (a := a) (l := []) rfl
        simpa [bm] using this
      rw [scanW_zero, scanW_blank _ _ _ (by decide), scanW_blank _ _ _ (by decide), scanW_glue [] _ l _ hsh, hnil] at q
      have hne := scanW_ne hs
      have hts := scan_len _ _ _ _ hs
      have hpos : 0 < ts.length := List.length_pos_iff.2 hne
      simp only [onto, scanRes, List.nil_append] at q
      simp only [scanRes, List.nil_append]
      have hml : ∀ (t : S32), ((ts.map (sh 2)).dropLast ++ [t]).length = ts.length := fun t => by simp; omega
      refine Ev.bind q (Ev.pos rfl ?_)
      rw [show (((((ts.map (sh 2)).dropLast ++ [(⟨0, (⟨#[]⟩ : ByteArray), 0, ((0 + 1 + 1 + l.length + 1 : Nat) : Int)⟩ : S32)]).length : Int)) != ((ts.length : Int))) = false by rw [hml]; simp]
      refine Ev.step (fun k => by simp only [switchyardlaw07_LexCuts.j1]; rfl) (Ev.neg (by simp) ?_)
      have hw : wrap64 ((ts.length : Int) - 1) = ((ts.length - 1 : Nat) : Int) := w_sub (b := 1) hpos (by omega)
      rw [hw]
      clear hw
      refine cuts_loop ts _ (by omega) (hml _) ?_ ?_ (ts.length - 1) 0 (by omega)
      · intro i hi
        rw [List.getElem_append_left (by simp; omega), List.getElem_dropLast, List.getElem_map]
      · intro t ht
        have := scanW_at 0 l ts hs t ht
        omega
  · obtain ⟨R, hR⟩ := scan_some l
    refine Ev.bind hR (Ev.bind awake_ev (Ev.pos rfl ?_))
    rw [show decide (((mk l).size : Int) > 7000) = true from decide_eq_true (by rw [mk_size]; omega)]
    exact long R
end Go.Proofs.YtdjcechogbcdnaaDoor.XL
namespace Go.Proofs.YtdjcechogbcdnaaDoor.XL
open Go.RowKit Go.Proofs.YtdjcechogbcdnaaDoorW.PrintWords Go.Proofs.YtdjcechogbcdnaaDoorW.PrintLast Go.Proofs.YtdjcechogbcdnaaDoorW.PrintMore
set_option linter.unusedVariables false in
theorem cuts_walk (a0 : ByteArray) (W : World) (hG0 : a0.size ≤ 140737488351232) (hT : Tabs W) :
    Calls Tryd.prog 4 #[.string a0] W fun e w' => e = .returned (.bool true) ∧ Below W.heap.size W w' := by
  obtain ⟨k, hk⟩ := Ev.rounds (lexCuts_ev a0)
  exact switchyardlaw07_LexCuts.calls k a0 true W hk hT
end Go.Proofs.YtdjcechogbcdnaaDoor.XL
namespace Go.Proofs.YtdjcechogbcdnaaDoor.Open
open Go.RowKit Go.Proofs.YtdjcechogbcdnaaDoorW.PrintWords
set_option linter.unusedVariables false
/-- Whatever reads as data of type t, with rounds up to n and all its weights within the reach, is a value of the kind k that meets G. -/
def Opens {α : Type} (n : Nat) (P : Program) (t : TypeId) (k : Kd α) (G : α → Prop) : Prop :=
  ∀ (H : Type) (enc : TypeId × Value → H) (w : World) (sp : Nat → Bool) (held : Bool) (fuel : Nat) (cs : List Value) (x : DataW H × List MemPlace), fuel ≤ n →
    DataW.trod enc P w 0 sp held fuel t cs = some x → (∀ b ∈ x.1.weights P t, b ≤ reachBytes) → ∃ v, k.K w v cs ∧ G v
theorem Opens.zero {α : Type} {P : Program} {t : TypeId} {k : Kd α} {G : α → Prop} : Opens 0 P t k G := by
  intro H enc w sp held fuel cs x hf ht hw
  obtain rfl : fuel = 0 := by omega
  simp [DataW.trod] at ht
/-- Fields in line, from the offset on. -/
def OpensF {α : Type} (n : Nat) (P : Program) (off : Nat) (fs : List Field) (k : Kd α) (G : α → Prop) : Prop :=
  ∀ (H : Type) (enc : TypeId × Value → H) (w : World) (sp : Nat → Bool) (held : Bool) (fuel : Nat) (cs : List Value) (xs : List (DataW H × List MemPlace)), fuel ≤ n → cs.length = off + k.sz → xs.length = fs.length →
    (∀ (i : Nat) (f : Field), fs[i]? = some f → DataW.trod enc P w 0 sp held fuel f.type ((cs.drop f.offset).take (P.cellsOf f.type)) = xs[i]?) →
    (∀ b ∈ DataW.weightsEach P (fs.map Field.type) (xs.map (·.1)), b ≤ reachBytes) → ∃ v, k.K w v (cs.drop off) ∧ G v
theorem OpensF.last {α : Type} {n : Nat} {P : Program} {off : Nat} {f : Field} {k : Kd α} {G : α → Prop} (ho : f.offset = off) (hc : P.cellsOf f.type = k.sz) (h : Opens n P f.type k G) : OpensF n P off [f] k G := by
  intro H enc w sp held fuel cs xs hf hl hxl hall hw
  match xs, hxl with
  | [x], _ =>
    have h1 := hall 0 f rfl
    rw [ho, hc, List.take_of_length_le (by rw [List.length_drop]; omega)] at h1
    exact h H enc w sp held fuel _ x hf h1 (fun b hb => hw b (by simpa [DataW.weightsEach] using hb))
theorem OpensF.cons {α β : Type} {n : Nat} {P : Program} {off : Nat} {f : Field} {fs : List Field} {k : Kd α} {k' : Kd β} {G : α → Prop} {G' : β → Prop} (ho : f.offset = off) (hc : P.cellsOf f.type = k.sz)
    (h : Opens n P f.type k G) (h' : OpensF n P (off + k.sz) fs k' G') : OpensF n P off (f :: fs) (Kd.pair k k') (fun v => G v.1 ∧ G' v.2) := by
  intro H enc w sp held fuel cs xs hf hl hxl hall hw
  match xs, hxl with
  | x :: xs, hxl =>
    have hl' : cs.length = off + (k.sz + k'.sz) := hl
    have h1 := hall 0 f rfl
    rw [ho, hc] at h1
    obtain ⟨v, hk, hg⟩ := h H enc w sp held fuel _ x hf h1 (fun b hb => hw b (by simp only [List.map_cons, DataW.weightsEach, List.mem_append]; exact Or.inl hb))
    obtain ⟨v', hk', hg'⟩ := h' H enc w sp held fuel cs xs hf (by omega) (by simpa using hxl) (fun i g hi => by simpa using hall (i + 1) g (by simpa using hi)) (fun b hb => hw b (by simp only [List.map_cons, DataW.weightsEach, List.mem_append]; exact Or.inr hb))
    refine ⟨(v, v'), ⟨_, _, ?_, hk, hk'⟩, hg, hg'⟩
    rw [← List.drop_drop]
    exact (List.take_append_drop _ _).symm
/-- A kind told otherwise. -/
theorem Opens.of {α β : Type} {n : Nat} {P : Program} {t : TypeId} {k : Kd α} {k' : Kd β} {G : α → Prop} {G' : β → Prop} (h : Opens n P t k G) (f : α → β) (hk : ∀ w v cs, k.K w v cs → k'.K w (f v) cs) (hg : ∀ v, G v → G' (f v)) : Opens n P t k' G' := by
  intro H enc w sp held fuel cs x hf ht hw
  obtain ⟨v, hkv, hv⟩ := h H enc w sp held fuel cs x hf ht hw
  exact ⟨f v, hk _ _ _ hkv, hg v hv⟩
theorem tab_of_reads {P : Program} {W : World} {l : List (String × DataW Unit)} {name : String} {k : IntKind} {zs : List Int} {g : Nat} {t e : TypeId} {n : Nat} (hp : (l.all fun x => x.2.handleName?.isNone) = true) (h : laidMetH P l W) (hm : (name, Lib.tabData k zs) ∈ l)
    (hg : P.globalNamed name = some g) (hty : (P.globals[g]?).map (·.type) = some t) (ht : P.underlying t = some (.array n e)) (he : P.underlying e = some (.int k)) (hce : P.cellsOf e = 1) (hct : P.cellsOf t = n) : Lib.TabIs P W name k zs := by
  rw [MakeChecks.laidMetH_plain _ _ _ hp] at h
  obtain ⟨g', t', cs, fuel, p, hg', ht', hvar, hd⟩ := Lib.laidMet.reads h hm
  obtain rfl := Option.some.inj (hg.symm.trans hg')
  obtain rfl := Option.some.inj (hty.symm.trans ht')
  unfold Lib.TabIs
  rw [hvar, ← Lib.cells_of_tab ht he hce hct hd]
theorem arg_weights {H : Type} {P : Program} {ts : List TypeId} {ds : List (DataW H)} (hsz : (DataW.weightsEach P ts ds).all (· ≤ reachBytes) = true) {j : Nat} {t : TypeId} {d : DataW H} (ht : ts[j]? = some t) (hd : ds[j]? = some d) : ∀ b ∈ d.weights P t, b ≤ reachBytes := by
  intro b hb
  simpa using List.all_eq_true.1 hsz _ (DataW.weights_mem_each ht hd b hb)
end Go.Proofs.YtdjcechogbcdnaaDoor.Open
namespace Go.Proofs.YtdjcechogbcdnaaDoor.XL
open Go.RowKit Go.Proofs.YtdjcechogbcdnaaDoorW.PrintWords Go.Proofs.YtdjcechogbcdnaaDoor.Open
theorem cells_of_strs {H : Type} {enc : TypeId × Value → H} {P : Program} {w : World} {base : Nat} {sp : Nat → Bool} {held : Bool} {fuel : Nat} {t e : TypeId} {n : Nat} {cs : List Value} {zs : List (List UInt8)} {p : List MemPlace}
    (ht : P.underlying t = some (.array n e)) (he : P.underlying e = some .string) (hce : P.cellsOf e = 1) (hct : P.cellsOf t = n)
    (h : DataW.trod enc P w base sp held fuel t cs = some (.agg (zs.map fun z => .lit (.string z)), p)) : cs = zs.map fun z => Value.string ⟨z.toArray⟩ := by
  cases fuel with
  | zero => simp [DataW.trod] at h
  | succ fuel =>
    simp only [DataW.trod, ht, hce, hct, Nat.mul_one] at h
    split at h
    · rename_i hl
      obtain ⟨xs, hm, hx⟩ := Option.map_eq_some_iff.1 h
      have hxs : xs.map (·.1) = zs.map fun z => (DataW.lit (.string z) : DataW H) := by
        have := congrArg Prod.fst hx
        simpa using this
      have hxl : xs.length = n := by simpa using Lib.mapM_length hm
      have hzl : zs.length = n := by
        have := congrArg List.length hxs
        simp at this
        omega
      apply List.ext_getElem?
      intro i
      by_cases hi : i < n
      · obtain ⟨b, hb, hf⟩ := Lib.mapM_at hm i i (by simp [hi])
        obtain ⟨s, hc, hb2, _⟩ := DataW.trod_string he hf
        have h1 : cs[i]? = some (.string s) := by
          have := congrArg (·[0]?) hc
          simpa [List.getElem?_take, List.getElem?_drop] using this
        have h2 : (xs.map (·.1))[i]? = some (DataW.lit (.string s.data.toList) : DataW H) := by simp [hb, hb2]
        rw [hxs] at h2
        simp only [List.getElem?_map, Option.map_eq_some_iff, DataW.lit.injEq, Lit.string.injEq] at h2
        obtain ⟨z', hz', hz2⟩ := h2
        have e : (⟨z'.toArray⟩ : ByteArray) = s := by rw [hz2]
        simp [h1, hz', e]
      · rw [List.getElem?_eq_none (by omega), List.getElem?_eq_none (by simp; omega)]
    · cases h
theorem strs_of_reads {P : Program} {W : World} {l : List (String × DataW Unit)} {name : String} (zs : List (List UInt8)) {g : Nat} {t e : TypeId} {n : Nat} (hp : (l.all fun x => x.2.handleName?.isNone) = true) (h : laidMetH P l W) (hm : (name, .agg (zs.map fun z => .lit (.string z))) ∈ l)
    (hg : P.globalNamed name = some g) (hty : (P.globals[g]?).map (·.type) = some t) (ht : P.underlying t = some (.array n e)) (he : P.underlying e = some .string) (hce : P.cellsOf e = 1) (hct : P.cellsOf t = n) : W.var? P name = some (zs.map fun z => Value.string ⟨z.toArray⟩).toArray := by
  rw [MakeChecks.laidMetH_plain _ _ _ hp] at h
  obtain ⟨g', t', cs, fuel, p, hg', ht', hvar, hd⟩ := Lib.laidMet.reads h hm
  obtain rfl := Option.some.inj (hg.symm.trans hg')
  obtain rfl := Option.some.inj (hty.symm.trans ht')
  rw [hvar, ← cells_of_strs ht he hce hct hd]
theorem iface_of_reads {P : Program} {W : World} {l : List (String × DataW Unit)} {name nm : String} {d : DataW Unit} {g : Nat} {t : TypeId} {ms : Array (String × TypeId)} (hp : (l.all fun x => x.2.handleName?.isNone) = true) (h : laidMetH P l W) (hm : (name, .iface nm d) ∈ l)
    (hg : P.globalNamed name = some g) (hty : (P.globals[g]?).map (·.type) = some t) (ht : P.underlying t = some (.interface ms)) : ∃ tp p, W.var? P name = some #[.iface tp p] := by
  rw [MakeChecks.laidMetH_plain _ _ _ hp] at h
  obtain ⟨g', t', cs, fuel, p, hg', ht', hvar, hd⟩ := Lib.laidMet.reads h hm
  obtain rfl := Option.some.inj (hg.symm.trans hg')
  obtain rfl := Option.some.inj (hty.symm.trans ht')
  obtain ⟨f1, u, v, hcs, _, _⟩ := iface_of_trod ht hd
  refine ⟨u, v, ?_⟩
  rw [hvar]
  congr 1
  apply Array.toList_inj.1
  exact hcs
end Go.Proofs.YtdjcechogbcdnaaDoor.XL
namespace Go.Proofs.YtdjcechogbcdnaaDoor.lexCuts
open Go.ChangeShapes Go.WideShapes Go.ChangeAt Go.RowKit
open Go.ChangeMaps (open_string shut_string)
open Go.Proofs.YtdjcechogbcdnaaDoorW.PrintWords Go.Proofs.YtdjcechogbcdnaaDoor.Open Go.Proofs.YtdjcechogbcdnaaDoor.XL
set_option linter.unusedVariables false
theorem door_met (os : Os) (args : Array Value) : laidMetH Tryd.prog Rows.lexCutsRow.laid ((World.doorLaid Tryd.prog 400 os).forCall (fun _ _ => 0) ⟨#[], args, []⟩).memory :=
  laidMetH_of_parts3 (fuel := 8) (laidMet_of_run' 8 (by kernel_rfl) (by kernel_rfl)) (by kernel_rfl) (by kernel_rfl)
theorem tabs_of {W : World} (h : laidMetH Tryd.prog Rows.lexCutsRow.laid W) : Tabs W :=
  ⟨tab_of_reads (by kernel_rfl) h (by exact .tail _ (.tail _ (.head _))) (g := 4) (by kernel_rfl) (by kernel_rfl) (n := 20) Tryd.underlying102 Tryd.underlying70 (by kernel_rfl) (by kernel_rfl), strs_of_reads signL (by kernel_rfl) h (by exact .tail _ (.tail _ (.tail _ (.tail _ (.tail _ (.head _)))))) (g := 0) (by kernel_rfl) (by kernel_rfl) (n := 27) Tryd.underlying51 Tryd.underlying9 (by kernel_rfl) (by kernel_rfl), iface_of_reads (by kernel_rfl) h (by exact .tail _ (.tail _ (.tail _ (.head _)))) (g := 3) (by kernel_rfl) (by kernel_rfl) Tryd.underlying46, iface_of_reads (by kernel_rfl) h (by exact .tail _ (.tail _ (.tail _ (.tail _ (.head _))))) (g := 2) (by kernel_rfl) (by kernel_rfl) Tryd.underlying46⟩
theorem own : ownKnob Tryd.prog.godebug = none := by kernel_rfl
theorem laidOut : laidOutB Tryd.prog = true := by kernel_rfl
set_option maxRecDepth 100000 in
theorem lifted (os : Os) (started : os.Started) (H : Type) (enc : TypeId × Value → H) :
    ReturnsInHanded {} Tryd.checked os 4 .any (fun w args => (Rows.lexCutsSpec.pre enc Tryd.prog Tryd.f4 [] false w args ∧ laidMetH Tryd.prog Rows.lexCutsRow.laid w) ∧ sizedMet enc Tryd.prog Tryd.f4 (OpenSpec.ofChange Rows.lexCutsSpec) false w args) (Rows.lexCutsSpec.post enc Tryd.prog Tryd.f4 false true false false) := by
  refine returnsInHanded_of_change_and (C := Tryd.checked) (X := fun w _ => laidMetH Tryd.prog Rows.lexCutsRow.laid w) (fun _ _ _ hh h => h.of_heap hh) own started (by kernel_rfl) Tryd.func4
    (ChangeSpec.witness_shaped (enc := enc) (C := Tryd.checked) (os := os) (X := fun w _ => laidMetH Tryd.prog Rows.lexCutsRow.laid w) false (World.doorLaid Tryd.prog 400 os) #[.string ByteArray.empty] 8 rfl (World.shaped_of_RefB (by kernel_rfl) (by kernel_rfl)) (by kernel_rfl) (by kernel_rfl) (by kernel_rfl) (door_met os _)) ?_
  intro W base args ds gs before hval0 hW hcnd hsz0 hL _
  have hsz : (DataW.weightsEach Tryd.prog (Tryd.f4.params.toList ++ Rows.lexCutsSpec.plain.varTypes Tryd.prog) (ds ++ gs)).all (· ≤ reachBytes) = true := hsz0
  have hval : ∀ (j : Nat) t v, Tryd.f4.params[j]? = some t → args[j]? = some v → Value.okWide Tryd.prog W .any base t v := hval0
  have hW' := hW
  obtain ⟨p, q, hA0, hV, rfl, hfz, hnd⟩ := hW
  have hA : DataW.TrodAll enc Tryd.prog W 0 (fun _ => true) true Tryd.f4.params.toList args.toList ds p := hA0
  rw [Tryd.params4] at hA hval hsz
  obtain ⟨v0, vs0, d0, ds0, p0, q0, hargs, rfl, rfl, h0, r0⟩ := trodAll_cons hA
  obtain ⟨rfl, rfl, rfl⟩ := trodAll_nil r0
  obtain rfl : args = #[v0] := by cases args; simp_all
  obtain ⟨rfl, rfl⟩ := trodVars_none hV
  have k0 := h0
  have lt0 : ∀ x ∈ p0, x.block < W.heap.size := by obtain ⟨m, hm⟩ := k0; exact DataW.trod_lt m _ _ _ hm
  have wt0 := Open.arg_weights hsz (j := 0) (t := 9) (d := d0) rfl rfl
  obtain ⟨a0, rfl, rfl, rfl, y0⟩ := open_string Tryd.underlying9 (hval 0 9 v0 rfl rfl) h0
  have w0 : a0.size ≤ 140737488351232 := by
    have z := wt0 _ (List.mem_singleton.2 rfl)
    simpa [reachBytes] using z
  clear hA0 hval0 hsz0 hsz
  have hT := tabs_of hL
  refine (cuts_walk a0 W w0 hT).mono fun e W' ⟨he, bel⟩ => ?_
  subst he
  exact ⟨_, rfl, _, _, _, [], _, [], hW', trodAll_mk1 (shut_bool Tryd.underlying4 _), (trodAll_cons_mk (Below.trod laidOut (by kernel_rfl) (of_decide_eq_true (by kernel_rfl)) k0 bel lt0) trodAll_mk0), rfl, bel.frame _, fun h => by cases h⟩
theorem over : Rows.lexCutsRow.holds Tryd.pinned (OpenSpec.ofChange Rows.lexCutsSpec) :=
  OpenClaim.holds_of_wide 4 Tryd.f4 rfl rfl rfl rfl rfl rfl rfl ⟨rfl, rfl, rfl, rfl, rfl⟩ rfl rfl rfl rfl rfl (by kernel_rfl) Tryd.func4 (by kernel_rfl)
    (of_decide_eq_true (by kernel_rfl)) (by unfold Func.isWrapper; first | (rw [if_pos (by decide +kernel)]; kernel_rfl) | (rw [if_neg (by decide +kernel)]; exact ⟨rfl, rfl⟩))
    (fun os started H enc _ => lifted os started H enc)
theorem proved : Rows.LexCutsSaid := over
theorem card_proved : Rows.LexCutsCardSaid :=
  Claim7.holds_tied_plain_at .later [] [.data, .data, .data, .sentinel, .sentinel, .data] true (true, "014ed79bff4ff950644538d023eda56c2caef8150cd3955ee4071edaba877566") true proved (fun _ h => by cases h) (by kernel_rfl) (fun _ h => by cases h) lexCuts_row_tie rfl ⟨rfl, rfl⟩ (by kernel_rfl) rfl
    (fun f fn hf hfn => by
      obtain rfl : f = 4 := Option.some.inj ((show Tryd.prog.funcNamed "switchyard/switchyardlaw07.LexCuts" = some 4 by kernel_rfl).symm.trans hf) |>.symm
      obtain rfl : fn = Tryd.f4 := (Option.some.inj (Tryd.func4.symm.trans hfn)).symm
      exact ⟨by kernel_rfl, fun j t ht => by
        rw [Tryd.params4] at ht
        have hm : t ∈ [9] := by simpa using Array.mem_of_getElem? ht
        have hall : ([9].all fun u => !Tryd.prog.wantsStandIn u) = true := by kernel_rfl
        exact (show Tryd.prog.wantsStandIn t = false by simpa using List.all_eq_true.1 hall t hm)⟩)
    (by kernel_rfl)
end Go.Proofs.YtdjcechogbcdnaaDoor.lexCuts
namespace Go.Proofs.YtdjcechogbcdnaaDoor
/-- The card, under a short name, for the claim. -/
theorem lexCuts_holds : Rows.LexCutsCardSaid := lexCuts.card_proved
end Go.Proofs.YtdjcechogbcdnaaDoor
