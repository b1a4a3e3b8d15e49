/- switchyard/switchyardlaw07.LexBack: for every input the law answers true, and its arguments read as before; the listed library tables are tied to the program's text by the given tie. Conditions: none but the card's own. -/
import Derived.Test.YtdjcechogbcdnaaDoorKBack2
import Derived.SizedLaws
import Derived.ChangeArms
import Derived.DataReads
import Derived.Lib.LaidU8
import Derived.Lib.LaidTab
import Derived.MakeChecks
import Derived.LaidLaws
import Derived.Stop.LaidErr
import Derived.Test.YtdjcechogbcdnaaDoorRows
import Derived.Test.YtdjcechogbcdnaaDoorCards
import Derived.Test.YtdjcechogbcdnaaDoorTie
import Derived.WalkKit
import Derived.ProofKit
import Derived.OpenShut
import Derived.ShutString
import Derived.ChangeOld
import Derived.Below
import Derived.LaidMore
import Derived.Stop.Joined
import Derived.SevenTiedAt
namespace Go.Proofs.YtdjcechogbcdnaaDoor.XL
open Go.RowKit Go.Proofs.YtdjcechogbcdnaaDoorW.PrintWords Go.Proofs.YtdjcechogbcdnaaDoorW.PrintLast Go.Proofs.YtdjcechogbcdnaaDoorW.PrintMore
set_option linter.unusedVariables false
set_option linter.unusedSimpArgs false
theorem tokL_cons (c : UInt8) (r : List UInt8) : tokL (c :: r) = if letC c = true then wordTk 1 ((c :: r).takeWhile wordC) ((c :: r).takeWhile wordC).length
    else if digC c = true then numTk ((c :: r).takeWhile digC)
    else if c = 34 then textTk (c :: r)
    else if c = 39 then wordTk 4 (r.takeWhile wordC) (1 + (r.takeWhile wordC).length)
    else signTk (c :: r) := rfl
theorem sign_res (l : List UInt8) : signAt (mk l) = tokRes (signTk l) := by
  unfold signAt signTk signRes
  rw [mkd]
  cases signL.find? (fun z => z.isPrefixOf l) <;> rfl
theorem name_mk (l : List UInt8) : value_Name.f (mk l) = some (nameL l) := rfl
theorem c_eq {c : UInt8} {n : Nat} (hn : n < 256) : ((c.toNat : Int) = (n : Int)) ↔ c = UInt8.ofNat n := by
  constructor
  · intro h; apply UInt8.toNat_inj.1; rw [UInt8.toNat_ofNat']; omega
  · rintro rfl; rw [UInt8.toNat_ofNat']; omega
theorem let_word {c : UInt8} (h : letC c = true) : wordC c = true := by simp [wordC, h]
theorem token_ev (c : UInt8) (r : List UInt8) (hl : (c :: r).length ≤ 8000) : Ev (fun k => lex_token.f k (mk (c :: r))) (tokRes (tokL (c :: r))) := by
  have hb : bt (mk (c :: r)) 0 = (c.toNat : Int) := bt_mk (l := c :: r) (i := 0) (by simp)
  have hsz : (mk (c :: r)).size = (c :: r).length := mk_size _
  have hlr : r.length < 8000 := by rw [List.length_cons] at hl; omega
  unfold lex_token.f
  rw [hb, letter_code, digit_code]
  refine Ev.pos (by rw [hsz]; simp) (Ev.bind (Ev.now _) ?_)
  rw [tokL_cons]
  by_cases h1 : letC c = true
  · rw [if_pos h1]
    refine Ev.pos h1 (Ev.bind (run_ev (c :: r) (by omega)) ?_)
    have hw := tw_le (p := wordC) (c :: r)
    rw [Int.toNat_natCast, mk_take, tw_take, name_mk]
    refine Ev.pos (by omega) (Ev.pos (by rw [hsz]; omega) (Ev.bind (Ev.now _) ?_))
    unfold wordTk
    by_cases hn : nameL ((c :: r).takeWhile wordC) = true
    · rw [if_pos hn, if_pos hn]; exact Ev.now _
    · rw [if_neg hn, if_neg hn]; exact Ev.now _
  · rw [if_neg h1]
    refine Ev.neg h1 (Ev.bind (Ev.now _) ?_)
    by_cases h2 : digC c = true
    · rw [if_pos h2]
      refine Ev.pos h2 ?_
      have := digits_ev (c :: r) hl (by rw [List.takeWhile_cons, if_pos h2]; simp)
      rw [hb] at this
      exact this
    · rw [if_neg h2]
      refine Ev.neg h2 ?_
      by_cases h3 : c = 34
      · subst h3
        rw [if_pos rfl]
        refine Ev.pos (by rfl) ?_
        rcases text_ev r hl with ⟨t, n, e, h⟩ | ⟨e, n, t, h⟩
        · rw [e]
          exact Ev.bind h (Ev.pos rfl (Ev.now _))
        · rw [e]
          exact Ev.bind h (Ev.neg (by simp) (Ev.now _))
      · rw [if_neg h3]
        refine Ev.neg (fun h => h3 ((c_eq (by decide)).1 h)) ?_
        by_cases h4 : c = 39
        · subst h4
          rw [if_pos rfl]
          have hd : (mk (39 :: r)).extract 1 (mk (39 :: r)).size = mk r := by
            rw [mk_drop (39 :: r) 1 _ (by rw [hsz]; exact Nat.le_refl _)]; rfl
          have hw := tw_le (p := wordC) r
          have hk : wrap64 (1 + ((r.takeWhile wordC).length : Int)) = ((1 + (r.takeWhile wordC).length : Nat) : Int) := by rw [w_id] <;> omega
          refine Ev.pos (by rfl) (Ev.pos (by rw [hsz]; simp; omega) ?_)
          rw [hd]
          refine Ev.bind (run_ev r (by omega)) ?_
          rw [hk]
          have he : (mk (39 :: r)).extract 1 (((1 + (r.takeWhile wordC).length : Nat) : Int)).toNat = mk (r.takeWhile wordC) := by
            rw [Int.toNat_natCast, mk_ext, Nat.add_comm 1, List.take_succ_cons, List.drop_succ_cons, List.drop_zero, tw_take]
          rw [he, name_mk]
          refine Ev.pos (by omega) (Ev.pos (by rw [hsz, List.length_cons]; omega) (Ev.bind (Ev.now _) ?_))
          unfold wordTk
          by_cases hn : nameL (r.takeWhile wordC) = true
          · rw [if_pos hn, if_pos hn]; exact Ev.now _
          · rw [if_neg hn, if_neg hn]; exact Ev.now _
        · rw [if_neg h4, sign_res]
          exact Ev.neg (fun h => h4 ((c_eq (by decide)).1 h)) (Ev.now _)
theorem signs_len : ∀ z ∈ signL, 1 ≤ z.length := by decide
theorem prt_len (t : List UInt8) : 2 ≤ (prt t).length := by simp [prt]
theorem tok_len (l : List UInt8) (x : Tk) (h : tokL l = some x) : 1 ≤ x.2.2.2 ∧ x.2.2.2 ≤ l.length := by
  cases l with
  | nil => cases h
  | cons c r =>
    rw [tokL_cons] at h
    split at h
    · rename_i h1
      unfold wordTk at h
      split at h
      · obtain rfl := Option.some.inj h
        exact ⟨by simp [List.takeWhile_cons, let_word h1], tw_le _⟩
      · cases h
    · split at h
      · rename_i h2
        unfold numTk at h
        split at h
        · obtain rfl := Option.some.inj h
          exact ⟨by simp [List.takeWhile_cons, h2], tw_le _⟩
        · cases h
      · split at h
        · obtain ⟨t, _, h2, rfl⟩ := textTk_is h
          have := prt_len t
          exact ⟨by simp only; omega, h2.length_le⟩
        · split at h
          · unfold wordTk at h
            split at h
            · obtain rfl := Option.some.inj h
              have := tw_le (p := wordC) r
              exact ⟨by simp only; omega, by simp only [List.length_cons]; omega⟩
            · cases h
          · unfold signTk at h
            obtain ⟨z, hz, rfl⟩ := Option.map_eq_some_iff.1 h
            have hm := List.mem_of_find?_eq_some hz
            have hp := List.find?_some hz
            simp only [List.isPrefixOf_iff_prefix] at hp
            exact ⟨signs_len z hm, hp.length_le⟩
theorem bm_le : ∀ (b : Bool) (l : List UInt8), bm b l ≤ l.length
  | _, [] => by simp [bm]
  | false, c :: r => by
    have h1 := bm_le false r
    have h2 := bm_le true r
    simp only [bm, List.length_cons]
    split
    · omega
    · split <;> omega
  | true, c :: r => by
    have h1 := bm_le false r
    have h2 := bm_le true r
    simp only [bm, List.length_cons]
    split <;> omega
/-- The tokens from a place on, with so much fuel; or where the first thing stands that is none. -/
noncomputable def scanF : Nat → Nat → List UInt8 → (List S32) ⊕ Nat
  | 0, at_, _ => .inr at_
  | _ + 1, at_, [] => .inl [⟨0, (⟨#[]⟩ : ByteArray), 0, (at_ : Int)⟩]
  | f + 1, at_, c :: r => match tokL (c :: r) with
    | none => .inr at_
    | some x => match scanF f (at_ + x.2.2.2 + bm false ((c :: r).drop x.2.2.2)) (((c :: r).drop x.2.2.2).drop (bm false ((c :: r).drop x.2.2.2))) with
      | .inl ts => .inl (⟨x.1, mk x.2.1, x.2.2.1, (at_ : Int)⟩ :: ts)
      | .inr e => .inr e
def scanRes (out : List S32) : (List S32) ⊕ Nat → List S32 × Int × Int
  | .inl ts => (out ++ ts, 0, 0)
  | .inr e => ([], (e : Int), 24)
noncomputable def scanL (l : List UInt8) : (List S32) ⊕ Nat := scanF (l.length + 1) (bm false l) (l.drop (bm false l))
theorem scan_step (f at_ : Nat) (c : UInt8) (r : List UInt8) (out : List S32) (x : Tk) (hx : tokL (c :: r) = some x) : scanRes out (scanF (f + 1) at_ (c :: r)) = scanRes (out ++ [⟨x.1, mk x.2.1, x.2.2.1, (at_ : Int)⟩]) (scanF f (at_ + x.2.2.2 + bm false ((c :: r).drop x.2.2.2)) (((c :: r).drop x.2.2.2).drop (bm false ((c :: r).drop x.2.2.2)))) := by
  simp only [scanF, hx]
  cases scanF f (at_ + x.2.2.2 + bm false ((c :: r).drop x.2.2.2)) (((c :: r).drop x.2.2.2).drop (bm false ((c :: r).drop x.2.2.2))) with
  | inl ts => simp [scanRes]
  | inr e => rfl
theorem scan_loop (l : List UInt8) (hl : l.length ≤ 8000) : ∀ (f i : Nat) (out : List S32), l.length - i < f → i ≤ l.length → out.length ≤ i → Ev (fun k => lex_Scan.l0 k (mk l) out (i : Int)) (scanRes out (scanF f i (l.drop i))) := by
  intro f
  induction f with
  | zero => intro i out h; omega
  | succ f ih =>
    intro i out hf hi ho
    refine Ev.step (fun k => by simp only [lex_Scan.l0]; rfl) ?_
    by_cases hlt : i < l.length
    · have hdr := List.drop_eq_getElem_cons hlt
      generalize l[i] = c at hdr
      generalize hY : l.drop (i + 1) = Y at hdr
      have hYl : (c :: Y).length = l.length - i := by rw [← hdr, List.length_drop]
      have he : (mk l).extract ((i : Int)).toNat (mk l).size = mk (c :: Y) := by
        rw [Int.toNat_natCast, mk_drop l i _ (by rw [mk_size]; exact Nat.le_refl _), hdr]
      rw [he]
      refine Ev.pos (by rw [mk_size]; omega) (Ev.pos (by omega) (Ev.pos (by rw [mk_size]; omega) (Ev.bind (token_ev c Y (by omega)) ?_)))
      rw [hdr]
      cases hx : tokL (c :: Y) with
      | none =>
        refine Ev.pos (by rfl) (Ev.val ?_)
        simp only [scanF, hx]; rfl
      | some x =>
        obtain ⟨h1, h2⟩ := tok_len _ _ hx
        rw [hYl] at h2
        rw [scan_step f i c Y out x hx]
        obtain ⟨xk, xt, xv, n⟩ := x
        simp only at h1 h2 ⊢
        have e1 : wrap64 ((i : Int) + (n : Int)) = ((i + n : Nat) : Int) := by rw [w_id] <;> omega
        have hd2 : (c :: Y).drop n = l.drop (i + n) := by rw [← hdr, List.drop_drop]
        have hbl := bm_le false (l.drop (i + n))
        rw [List.length_drop] at hbl
        have e2 : (mk l).extract (((i + n : Nat) : Int)).toNat (mk l).size = mk (l.drop (i + n)) := by
          rw [Int.toNat_natCast, mk_drop l (i + n) _ (by rw [mk_size]; exact Nat.le_refl _)]
        rw [hd2, List.drop_drop]
        simp only [tokRes, e1, e2]
        clear e1 e2 he
        refine Ev.neg (by omega) (Ev.pos (by omega) (Ev.pos (by omega) (Ev.pos (by rw [mk_size]; omega) (Ev.bind (blanks_ev (l.drop (i + n)) (by rw [List.length_drop]; omega)) ?_))))
        have e3 : wrap64 (((i + n : Nat) : Int) + ((bm false (l.drop (i + n)) : Nat) : Int)) = ((i + n + bm false (l.drop (i + n)) : Nat) : Int) := by rw [w_id] <;> omega
        rw [e3]
        exact ih _ _ (by omega) (by omega) (by simp only [List.length_append, List.length_cons, List.length_nil]; omega)
    · rw [List.drop_eq_nil_of_le (by omega)]
      refine Ev.neg (by rw [mk_size]; omega) (Ev.pos (by omega) (Ev.val ?_))
      rfl
theorem scan_ev (l : List UInt8) (hl : l.length ≤ 8000) : Ev (fun k => lex_Scan.f k (mk l)) (scanRes [] (scanL l)) := by
  unfold lex_Scan.f
  have hb := bm_le false l
  refine Ev.neg (by rw [mk_size]; omega) (Ev.bind (blanks_ev l (by omega)) ?_)
  exact scan_loop l hl (l.length + 1) (bm false l) [] (by omega) hb (by simp)
theorem scan_long (l : List UInt8) (hl : ¬ l.length ≤ 8000) : Ev (fun k => lex_Scan.f k (mk l)) (([] : List S32), 0, 5) := by
  unfold lex_Scan.f
  exact Ev.pos (by rw [mk_size]; omega) (Ev.now _)
end Go.Proofs.YtdjcechogbcdnaaDoor.XL
namespace Go.Proofs.YtdjcechogbcdnaaDoor.XL
open Go.RowKit Go.Proofs.YtdjcechogbcdnaaDoorW.PrintWords Go.Proofs.YtdjcechogbcdnaaDoorW.PrintLast Go.Proofs.YtdjcechogbcdnaaDoorW.PrintMore
attribute [local go_sem] max2_int min2_int max_two min_two max_three min_three max_four min_four   -- for this text's walks alone
set_option linter.unusedVariables false
set_option linter.unusedSimpArgs false
theorem eqA32 (d : Nat) (w : World) (x0 y0 : Int) (x1 y1 : ByteArray) (x2 y2 : Int) (x3 y3 : Int) :
    (Op.equalIn (d + 2) 32 (.agg #[.int .i64 x0, .string x1, .int .i64 x2, .int .i64 x3]) (.agg #[.int .i64 y0, .string y1, .int .i64 y2, .int .i64 y3])).run Tryd.prog w = .ok (x0 == y0 && (x1.toList == y1.toList && (x2 == y2 && (x3 == y3)))) w := by
  refine eqA_of Tryd.underlying32 (by kernel_rfl) ?_
  refine eqf_cons (by rfl) (by go_simp; rfl) (by go_simp; rfl) (by go_simp) ?_
  refine eqf_cons (by rfl) (by go_simp; rfl) (by go_simp; rfl) (by go_simp) ?_
  refine eqf_cons (by rfl) (by go_simp; rfl) (by go_simp; rfl) (by go_simp) ?_
  exact eqf_last (by rfl) (by go_simp; rfl) (by go_simp; rfl) (by go_simp)
end Go.Proofs.YtdjcechogbcdnaaDoor.XL
namespace Go.Proofs.YtdjcechogbcdnaaDoor.XL
open Go.RowKit Go.Proofs.YtdjcechogbcdnaaDoorW.PrintWords Go.Proofs.YtdjcechogbcdnaaDoorW.PrintLast Go.Proofs.YtdjcechogbcdnaaDoorW.PrintMore
set_option linter.unusedVariables false
set_option linter.unusedSimpArgs false
theorem valA_eq : ∀ (l : List UInt8) (acc : Nat), valA acc l = acc * 10 ^ l.length + valD l
  | [], acc => by simp [valA, valD]
  | c :: r, acc => by
    have h1 := valA_eq r (10 * acc + (c.toNat - 48))
    have h2 := valA_eq r (10 * 0 + (c.toNat - 48))
    have e1 : valA acc (c :: r) = valA (10 * acc + (c.toNat - 48)) r := rfl
    have e2 : valD (c :: r) = valA (10 * 0 + (c.toNat - 48)) r := rfl
    rw [e1, e2, h1, h2, List.length_cons, Nat.pow_succ, Nat.add_mul, Nat.mul_zero, Nat.zero_add]
    have : 10 * acc * 10 ^ r.length = acc * (10 ^ r.length * 10) := by
      rw [Nat.mul_comm 10 acc, Nat.mul_assoc, Nat.mul_comm 10]
    omega
theorem dig_bounds {c : UInt8} (h : digC c = true) : 48 ≤ c.toNat ∧ c.toNat ≤ 57 := of_decide_eq_true h
theorem valD_cons (c : UInt8) (r : List UInt8) : valD (c :: r) = (c.toNat - 48) * 10 ^ r.length + valD r := by
  have e2 : valD (c :: r) = valA (10 * 0 + (c.toNat - 48)) r := rfl
  rw [e2, valA_eq, Nat.mul_zero, Nat.zero_add]
end Go.Proofs.YtdjcechogbcdnaaDoor.XL
namespace Go.Proofs.YtdjcechogbcdnaaDoor.XL
open Go.RowKit Go.Proofs.YtdjcechogbcdnaaDoorW.PrintWords Go.Proofs.YtdjcechogbcdnaaDoorW.PrintLast Go.Proofs.YtdjcechogbcdnaaDoorW.PrintMore
set_option linter.unusedVariables false
set_option linter.unusedSimpArgs false
theorem rdT_at (l : List S32) (i : Nat) (h : i < l.length) : rd_T32 l (i : Int) = l[i] := by
  unfold rd_T32; simp [h]
end Go.Proofs.YtdjcechogbcdnaaDoor.XL
namespace Go.Proofs.YtdjcechogbcdnaaDoor.XL
open Go.RowKit Go.Proofs.YtdjcechogbcdnaaDoorW.PrintWords Go.Proofs.YtdjcechogbcdnaaDoorW.PrintLast Go.Proofs.YtdjcechogbcdnaaDoorW.PrintMore
set_option linter.unusedVariables false
set_option linter.unusedSimpArgs false
theorem scanF_some {f a : Nat} {c : UInt8} {r : List UInt8} {x : Tk} (h : tokL (c :: r) = some x) : scanF (f + 1) a (c :: r) = (match scanF f (a + x.2.2.2 + bm false ((c :: r).drop x.2.2.2)) (((c :: r).drop x.2.2.2).drop (bm false ((c :: r).drop x.2.2.2))) with | .inl ts => .inl (⟨x.1, mk x.2.1, x.2.2.1, (a : Int)⟩ :: ts) | .inr e => .inr e) := by
  simp only [scanF, h] <;> rfl
theorem scanF_none {f a : Nat} {c : UInt8} {r : List UInt8} (h : tokL (c :: r) = none) : scanF (f + 1) a (c :: r) = .inr a := by
  simp only [scanF, h]
theorem aw1 : scanL [97, 45, 62, 98, 32, 47, 47, 32, 99] = .inl [⟨1, mk [97], 0, 0⟩, ⟨5, mk [45, 62], 0, 1⟩, ⟨1, mk [98], 0, 3⟩, ⟨0, ⟨#[]⟩, 0, 9⟩] := by
  have t1 : tokL [97, 45, 62, 98, 32, 47, 47, 32, 99] = some (1, [97], 0, 1) := by rw [tokL_cons, if_pos (by decide)]; decide +kernel
  have t2 : tokL [45, 62, 98, 32, 47, 47, 32, 99] = some (5, [45, 62], 0, 2) := by rw [tokL_cons, if_neg (by decide), if_neg (by decide), if_neg (by decide), if_neg (by decide)]; decide +kernel
  have t3 : tokL [98, 32, 47, 47, 32, 99] = some (1, [98], 0, 1) := by rw [tokL_cons, if_pos (by decide)]; decide +kernel
  have b0 : bm false [97, 45, 62, 98, 32, 47, 47, 32, 99] = 0 := by decide
  have b1 : bm false [45, 62, 98, 32, 47, 47, 32, 99] = 0 := by decide
  have b2 : bm false [98, 32, 47, 47, 32, 99] = 0 := by decide
  have b3 : bm false [32, 47, 47, 32, 99] = 5 := by decide
  unfold scanL
  rw [b0]
  show scanF 10 0 [97, 45, 62, 98, 32, 47, 47, 32, 99] = _
  rw [scanF_some t1]
  simp only [List.drop_succ_cons, List.drop_zero, b1]
  rw [scanF_some t2]
  simp only [List.drop_succ_cons, List.drop_zero, b2]
  rw [scanF_some t3]
  simp only [List.drop_succ_cons, List.drop_zero, b3]
  rfl
theorem aw2 : scanL [48, 49] = .inr 0 := by
  have t1 : tokL [48, 49] = none := by rw [tokL_cons, if_neg (by decide), if_pos (by decide)]; decide +kernel
  have b0 : bm false [48, 49] = 0 := by decide
  unfold scanL
  rw [b0]
  exact scanF_none t1
theorem aw3 : scanL [34, 92, 113, 34] = .inr 0 := by
  have t1 : tokL [34, 92, 113, 34] = none := by
    rw [tokL_cons, if_neg (by decide), if_neg (by decide), if_pos rfl]
    refine textTk_none fun t _ h => ?_
    obtain ⟨x, hx⟩ := h
    cases t with
    | nil => simp [prt] at hx
    | cons b t =>
      have no : ∀ n : Fin 256, ¬ (enc (UInt8.ofNat n.val)).isPrefixOf [92, 113, 34] = true := by decide +kernel
      apply no ⟨b.toNat, b.toNat_lt⟩
      simp only [UInt8.ofNat_toNat]
      rw [List.isPrefixOf_iff_prefix]
      unfold prt at hx
      rw [List.cons_append] at hx
      have := (List.cons.inj hx).2
      rw [← this, List.flatMap_cons, List.append_assoc, List.append_assoc]
      exact List.prefix_append _ _
  have b0 : bm false [34, 92, 113, 34] = 0 := by decide
  unfold scanL
  rw [b0]
  exact scanF_none t1
theorem aw4 : scanL [39] = .inr 0 := by
  have t1 : tokL [39] = none := by rw [tokL_cons, if_neg (by decide), if_neg (by decide), if_neg (by decide), if_pos rfl]; decide +kernel
  have b0 : bm false [39] = 0 := by decide
  unfold scanL
  rw [b0]
  exact scanF_none t1
theorem awake_ev : Ev (fun k => switchyardlaw07_awake.f k) true := by
  have h1 := scan_ev [97, 45, 62, 98, 32, 47, 47, 32, 99] (by decide)
  have h2 := scan_ev [48, 49] (by decide)
  have h3 := scan_ev [34, 92, 113, 34] (by decide)
  have h4 := scan_ev [39] (by decide)
  rw [aw1] at h1
  rw [aw2] at h2
  rw [aw3] at h3
  rw [aw4] at h4
  unfold switchyardlaw07_awake.f
  refine Ev.bind h1 (Ev.bind h2 (Ev.bind h3 (Ev.bind h4 ?_)))
  refine Ev.pos rfl (Ev.pos rfl (Ev.pos (by decide) (Ev.pos ?_ (Ev.pos (by decide) (Ev.pos rfl (Ev.pos rfl (Ev.pos rfl (Ev.pos rfl (Ev.now _)))))))))
  show (mk [45, 62]).toList = _
  rw [mkT]
theorem scan_len : ∀ (f a : Nat) (l : List UInt8) (ts : List S32), scanF f a l = .inl ts → ts.length ≤ f
  | 0, a, l, ts, h => by cases h
  | f + 1, a, [], ts, h => by
    have : ts = [⟨0, (⟨#[]⟩ : ByteArray), 0, (a : Int)⟩] := (Sum.inl.inj h).symm
    rw [this]; simp
  | f + 1, a, c :: r, ts, h => by
    cases hx : tokL (c :: r) with
    | none => rw [scanF_none hx] at h; cases h
    | some x =>
      rw [scanF_some hx] at h
      split at h
      · rename_i us hu
        have := scan_len f _ _ us hu
        rw [← Sum.inl.inj h, List.length_cons]; omega
      · cases h
end Go.Proofs.YtdjcechogbcdnaaDoor.XL
namespace Go.Proofs.YtdjcechogbcdnaaDoor.XL
open Go.RowKit Go.Proofs.YtdjcechogbcdnaaDoorW.PrintWords Go.Proofs.YtdjcechogbcdnaaDoorW.PrintLast Go.Proofs.YtdjcechogbcdnaaDoorW.PrintMore
set_option linter.unusedVariables false
set_option linter.unusedSimpArgs false
/-- Nothing, or a blank at the front. -/
def Gap (y : List UInt8) : Prop := y = [] ∨ ∃ b z, y = b :: z ∧ blankC b = true
theorem gap_ends {y : List UInt8} (h : Gap y) {b : UInt8} {z : List UInt8} (hy : y = b :: z) : blankC b = true := by
  rcases h with rfl | ⟨b', z', rfl, hb⟩
  · cases hy
  · rw [← (List.cons.inj hy).1]; exact hb
theorem blank_not : ∀ n : Fin 256, blankC (UInt8.ofNat n.val) = true → wordC (UInt8.ofNat n.val) = false ∧ digC (UInt8.ofNat n.val) = false ∧ UInt8.ofNat n.val ≠ 47 := by decide +kernel
theorem blank_no {b : UInt8} (h : blankC b = true) : wordC b = false ∧ digC b = false ∧ b ≠ 47 := by
  have := blank_not ⟨b.toNat, b.toNat_lt⟩
  simp only [UInt8.ofNat_toNat] at this
  exact this h
theorem tw_gap {p : UInt8 → Bool} (hp : ∀ b, blankC b = true → p b = false) : ∀ (u y : List UInt8), Gap y → (u ++ y).takeWhile p = u.takeWhile p
  | [], y, hy => by
    rcases hy with rfl | ⟨b, z, rfl, hb⟩
    · rfl
    · rw [List.nil_append, List.takeWhile_cons, hp b hb]; rfl
  | c :: u, y, hy => by
    rw [List.cons_append, List.takeWhile_cons, List.takeWhile_cons, tw_gap hp u y hy]
theorem tw_cut {p : UInt8 → Bool} : ∀ (u : List UInt8) (k : Nat), (u.takeWhile p).length ≤ k → (u.take k).takeWhile p = u.takeWhile p
  | [], k, _ => by simp
  | c :: u, 0, h => by
    by_cases hp : p c = true
    · rw [List.takeWhile_cons, if_pos hp] at h; simp at h
    · rw [List.takeWhile_cons, if_neg hp]; rfl
  | c :: u, k + 1, h => by
    rw [List.take_succ_cons, List.takeWhile_cons, List.takeWhile_cons]
    by_cases hp : p c = true
    · rw [if_pos hp, if_pos hp]
      rw [List.takeWhile_cons, if_pos hp, List.length_cons] at h
      rw [tw_cut u k (by omega)]
    · rw [if_neg hp, if_neg hp]
theorem find_same {α : Type} {p q : α → Bool} : ∀ (L : List α) (z : α), L.find? p = some z → q z = true → (∀ x ∈ L, q x = true → p x = true) → L.find? q = some z
  | [], z, h, _, _ => by cases h
  | x :: L, z, h, hq, hs => by
    rw [List.find?_cons] at h ⊢
    by_cases hx : p x = true
    · rw [hx] at h
      obtain rfl : x = z := Option.some.inj h
      rw [hq]
    · have hpx : p x = false := by simpa using hx
      rw [hpx] at h
      have hqx : q x = false := by
        rw [Bool.eq_false_iff]
        intro e; exact hx (hs x List.mem_cons_self e)
      rw [hqx]
      exact find_same L z h hq (fun y hy => hs y (List.mem_cons_of_mem _ hy))
theorem sign_bytes : ∀ z ∈ signL, ∀ c ∈ z, blankC c = false := by decide
theorem pre_cut {z u : List UInt8} {k : Nat} (h : z <+: u.take k) : z <+: u := h.trans (List.take_prefix _ _)
theorem cut_pre {z u : List UInt8} {k : Nat} (h : z <+: u) (hk : z.length ≤ k) : z <+: u.take k := by
  rw [List.prefix_iff_eq_take] at h ⊢
  rw [List.take_take, Nat.min_eq_left hk]; exact h
theorem pre_gap : ∀ {z u y : List UInt8}, Gap y → (∀ c ∈ z, blankC c = false) → z <+: u ++ y → z <+: u
  | [], u, y, _, _, _ => List.nil_prefix
  | c :: z, [], y, hy, hz, h => by
    exfalso
    obtain ⟨t, ht⟩ := h
    have h1 := gap_ends hy (b := c) (z := z ++ t) (by rw [List.nil_append] at ht; rw [← ht]; rfl)
    rw [hz c List.mem_cons_self] at h1
    cases h1
  | c :: z, d :: u, y, hy, hz, h => by
    rw [List.cons_append, List.cons_prefix_cons] at h
    rw [List.cons_prefix_cons]
    exact ⟨h.1, pre_gap hy (fun x hx => hz x (List.mem_cons_of_mem _ hx)) h.2⟩
/-- A token is the same where the text behind it is cut off. -/
theorem tok_take {u : List UInt8} {x : Tk} {k : Nat} (h : tokL u = some x) (hk : x.2.2.2 ≤ k) : tokL (u.take k) = some x := by
  obtain ⟨h1, h2⟩ := tok_len u x h
  cases u with
  | nil => cases h
  | cons c r =>
    obtain ⟨m, rfl⟩ : ∃ m, k = m + 1 := ⟨k - 1, by omega⟩
    rw [List.take_succ_cons]
    have e : c :: r.take m = (c :: r).take (m + 1) := (List.take_succ_cons).symm
    rw [tokL_cons] at h ⊢
    by_cases l1 : letC c = true
    · rw [if_pos l1] at h ⊢
      have hn : x.2.2.2 = ((c :: r).takeWhile wordC).length := by
        unfold wordTk at h; split at h
        · rw [← Option.some.inj h]
        · cases h
      rw [e, tw_cut _ _ (by omega)]; exact h
    · rw [if_neg l1] at h ⊢
      by_cases l2 : digC c = true
      · rw [if_pos l2] at h ⊢
        have hn : x.2.2.2 = ((c :: r).takeWhile digC).length := by
          unfold numTk at h; split at h
          · rw [← Option.some.inj h]
          · cases h
        rw [e, tw_cut _ _ (by omega)]; exact h
      · rw [if_neg l2] at h ⊢
        by_cases l3 : c = 34
        · rw [if_pos l3] at h ⊢
          obtain ⟨t, t1, t2, rfl⟩ := textTk_is h
          rw [e]
          exact textTk_some t1 (cut_pre t2 hk)
        · rw [if_neg l3] at h ⊢
          by_cases l4 : c = 39
          · rw [if_pos l4] at h ⊢
            have hn : x.2.2.2 = 1 + (r.takeWhile wordC).length := by
              unfold wordTk at h; split at h
              · rw [← Option.some.inj h]
              · cases h
            rw [tw_cut _ _ (by omega)]; exact h
          · rw [if_neg l4] at h ⊢
            unfold signTk at h ⊢
            obtain ⟨z, hz, rfl⟩ := Option.map_eq_some_iff.1 h
            rw [e]
            have hp := List.find?_some hz
            rw [List.isPrefixOf_iff_prefix] at hp
            rw [find_same signL z hz (by rw [List.isPrefixOf_iff_prefix]; exact cut_pre hp hk) (fun y _ hy => by
              rw [List.isPrefixOf_iff_prefix] at hy ⊢; exact pre_cut hy)]
            rfl
/-- A token is the same where a blank comes behind it. -/
theorem tok_gap {u y : List UInt8} {x : Tk} (hy : Gap y) (h : tokL u = some x) : tokL (u ++ y) = some x := by
  cases u with
  | nil => cases h
  | cons c r =>
    have e : c :: (r ++ y) = (c :: r) ++ y := rfl
    rw [List.cons_append]
    rw [tokL_cons] at h ⊢
    have hw := tw_gap (p := wordC) (fun b hb => (blank_no hb).1)
    have hd := tw_gap (p := digC) (fun b hb => (blank_no hb).2.1)
    by_cases l1 : letC c = true
    · rw [if_pos l1] at h ⊢
      rw [e, hw _ _ hy]; exact h
    · rw [if_neg l1] at h ⊢
      by_cases l2 : digC c = true
      · rw [if_pos l2] at h ⊢
        rw [e, hd _ _ hy]; exact h
      · rw [if_neg l2] at h ⊢
        by_cases l3 : c = 34
        · rw [if_pos l3] at h ⊢
          obtain ⟨t, t1, t2, rfl⟩ := textTk_is h
          exact textTk_some t1 (t2.trans (List.prefix_append _ _))
        · rw [if_neg l3] at h ⊢
          by_cases l4 : c = 39
          · rw [if_pos l4] at h ⊢
            rw [hw _ _ hy]; exact h
          · rw [if_neg l4] at h ⊢
            unfold signTk at h ⊢
            obtain ⟨z, hz, rfl⟩ := Option.map_eq_some_iff.1 h
            rw [e]
            have hp := List.find?_some hz
            rw [List.isPrefixOf_iff_prefix] at hp
            rw [find_same signL z hz (by rw [List.isPrefixOf_iff_prefix]; exact hp.trans (List.prefix_append _ _)) (fun v hv hq => by
              rw [List.isPrefixOf_iff_prefix] at hq ⊢; exact pre_gap hy (sign_bytes v hv) hq)]
            rfl
theorem bm_gap : ∀ (b : Bool) (u y : List UInt8), Gap y → bm b u < u.length → bm b (u ++ y) = bm b u
  | b, [], y, _, h => by simp at h
  | false, c :: r, y, hy, h => by
    simp only [bm, List.cons_append] at h ⊢
    by_cases hc : blankC c = true
    · rw [if_pos hc] at h ⊢
      rw [if_pos hc, bm_gap false r y hy (by simp only [List.length_cons] at h; omega)]
    · rw [if_neg hc] at h ⊢
      rw [if_neg hc]
      by_cases hcm : c = 47 ∧ r.head? = some 47
      · rw [if_pos hcm] at h ⊢
        have hr : (r ++ y).head? = some 47 := by
          cases r with
          | nil => cases hcm.2
          | cons d r => exact hcm.2
        rw [if_pos ⟨hcm.1, hr⟩, bm_gap true r y hy (by simp only [List.length_cons] at h; omega)]
      · rw [if_neg hcm]
        rw [if_neg]
        rintro ⟨h1, h2⟩
        cases r with
        | nil =>
          cases y with
          | nil => cases h2
          | cons b z => exact (blank_no (gap_ends hy rfl)).2.2 (Option.some.inj h2)
        | cons d r => exact hcm ⟨h1, h2⟩
  | true, c :: r, y, hy, h => by
    simp only [bm, List.cons_append] at h ⊢
    by_cases hc : c = 10
    · rw [if_pos hc] at h ⊢
      rw [if_pos hc, bm_gap false r y hy (by simp only [List.length_cons] at h; omega)]
    · rw [if_neg hc] at h ⊢
      rw [if_neg hc, bm_gap true r y hy (by simp only [List.length_cons] at h; omega)]
theorem bm_cut : ∀ (b : Bool) (u : List UInt8) (k : Nat), bm b u ≤ k → bm b (u.take k) = bm b u
  | b, [], k, _ => by simp
  | b, c :: r, 0, h => by
    rw [List.take_zero]
    have : bm b [] = 0 := by cases b <;> rfl
    omega
  | false, c :: r, k + 1, h => by
    rw [List.take_succ_cons]
    simp only [bm] at h ⊢
    by_cases hc : blankC c = true
    · rw [if_pos hc] at h ⊢
      rw [if_pos hc, bm_cut false r k (by omega)]
    · rw [if_neg hc] at h ⊢
      rw [if_neg hc]
      by_cases hcm : c = 47 ∧ r.head? = some 47
      · rw [if_pos hcm] at h
        obtain ⟨h1, h2⟩ := hcm
        cases r with
        | nil => cases h2
        | cons d r =>
          obtain rfl : d = 47 := Option.some.inj h2
          have hb : bm true (47 :: r) = 1 + bm true r := by simp [bm]
          obtain ⟨m, rfl⟩ : ∃ m, k = m + 1 := ⟨k - 1, by omega⟩
          rw [if_pos ⟨h1, by rw [List.take_succ_cons]; rfl⟩, if_pos ⟨h1, rfl⟩, bm_cut true (47 :: r) (m + 1) (by omega)]
      · rw [if_neg hcm, if_neg]
        rintro ⟨h1, h2⟩
        cases r with
        | nil => simp at h2
        | cons d r =>
          cases k with
          | zero => simp at h2
          | succ k => exact hcm ⟨h1, by simpa using h2⟩
  | true, c :: r, k + 1, h => by
    rw [List.take_succ_cons]
    simp only [bm] at h ⊢
    by_cases hc : c = 10
    · rw [if_pos hc] at h ⊢
      rw [if_pos hc, bm_cut false r k (by omega)]
    · rw [if_neg hc] at h ⊢
      rw [if_neg hc, bm_cut true r k (by omega)]
theorem bm_rest : ∀ (b : Bool) (u : List UInt8), bm false (u.drop (bm b u)) = 0
  | true, [] => rfl
  | false, [] => rfl
  | false, c :: r => by
    simp only [bm]
    by_cases hc : blankC c = true
    · rw [if_pos hc, Nat.add_comm, List.drop_succ_cons]; exact bm_rest false r
    · rw [if_neg hc]
      by_cases hcm : c = 47 ∧ r.head? = some 47
      · rw [if_pos hcm, Nat.add_comm, List.drop_succ_cons]; exact bm_rest true r
      · rw [if_neg hcm, List.drop_zero]; simp only [bm]; rw [if_neg hc, if_neg hcm]
  | true, c :: r => by
    simp only [bm]
    by_cases hc : c = 10
    · rw [if_pos hc, Nat.add_comm, List.drop_succ_cons]; exact bm_rest false r
    · rw [if_neg hc, Nat.add_comm, List.drop_succ_cons]; exact bm_rest true r
theorem scanF_fuel : ∀ (f g a : Nat) (l : List UInt8), l.length < f → l.length < g → scanF f a l = scanF g a l
  | 0, _, _, _, h, _ => by omega
  | _, 0, _, _, _, h => by omega
  | f + 1, g + 1, a, [], _, _ => rfl
  | f + 1, g + 1, a, c :: r, hf, hg => by
    cases hx : tokL (c :: r) with
    | none => rw [scanF_none hx, scanF_none hx]
    | some x =>
      obtain ⟨h1, h2⟩ := tok_len _ _ hx
      rw [scanF_some hx, scanF_some hx, scanF_fuel f g]
      · rw [List.length_drop, List.length_drop]; omega
      · rw [List.length_drop, List.length_drop]; omega
/-- The tokens of a text that begins at a place, blanks ahead. -/
noncomputable def scanW (a : Nat) (l : List UInt8) : (List S32) ⊕ Nat := scanF (l.length + 1) (a + bm false l) (l.drop (bm false l))
theorem scanW_zero (l : List UInt8) : scanL l = scanW 0 l := by unfold scanL scanW; rw [Nat.zero_add]
theorem scanW_end {a : Nat} {l : List UInt8} (h : l.drop (bm false l) = []) : scanW a l = .inl [⟨0, (⟨#[]⟩ : ByteArray), 0, ((a + bm false l : Nat) : Int)⟩] := by
  unfold scanW; rw [h]; rfl
theorem scanW_bad {a : Nat} {l r : List UInt8} {c : UInt8} (h : l.drop (bm false l) = c :: r) (hx : tokL (c :: r) = none) : scanW a l = .inr (a + bm false l) := by
  unfold scanW; rw [h]; exact scanF_none hx
theorem scanW_tok {a : Nat} {l r : List UInt8} {c : UInt8} {x : Tk} (h : l.drop (bm false l) = c :: r) (hx : tokL (c :: r) = some x) : scanW a l = (match scanW (a + bm false l + x.2.2.2) ((c :: r).drop x.2.2.2) with | .inl ts => .inl (⟨x.1, mk x.2.1, x.2.2.1, ((a + bm false l : Nat) : Int)⟩ :: ts) | .inr e => .inr e) := by
  obtain ⟨h1, h2⟩ := tok_len _ _ hx
  have hl := congrArg List.length h
  rw [List.length_drop] at hl
  unfold scanW
  rw [h, scanF_some hx, scanF_fuel l.length (((c :: r).drop x.2.2.2).length + 1) _ _ (by rw [List.length_drop, List.length_drop]; omega) (by rw [List.length_drop]; omega)]
  try rfl
end Go.Proofs.YtdjcechogbcdnaaDoor.XL
namespace Go.Proofs.YtdjcechogbcdnaaDoor.XL
open Go.RowKit Go.Proofs.YtdjcechogbcdnaaDoorW.PrintWords Go.Proofs.YtdjcechogbcdnaaDoorW.PrintLast Go.Proofs.YtdjcechogbcdnaaDoorW.PrintMore
set_option linter.unusedVariables false
set_option linter.unusedSimpArgs false
/-- Ahead of what comes. -/
def onto (t : List S32) : (List S32) ⊕ Nat → (List S32) ⊕ Nat
  | .inl ts => .inl (t ++ ts)
  | .inr e => .inr e
theorem scanW_tok' {a : Nat} {l r : List UInt8} {c : UInt8} {x : Tk} (h : l.drop (bm false l) = c :: r) (hx : tokL (c :: r) = some x) : scanW a l = onto [⟨x.1, mk x.2.1, x.2.2.1, ((a + bm false l : Nat) : Int)⟩] (scanW (a + bm false l + x.2.2.2) ((c :: r).drop x.2.2.2)) := by
  rw [scanW_tok h hx]
  cases scanW (a + bm false l + x.2.2.2) ((c :: r).drop x.2.2.2) <;> rfl
theorem onto_inl {t ts : List S32} {R : (List S32) ⊕ Nat} (h : onto t R = .inl ts) : ∃ us, R = .inl us ∧ ts = t ++ us := by
  cases R with
  | inl us => exact ⟨us, rfl, (Sum.inl.inj h).symm⟩
  | inr e => cases h
/-- A text is its first token, and a shorter one. -/
theorem scanW_ind {P : Nat → List UInt8 → Prop} (he : ∀ a l, l.drop (bm false l) = [] → P a l) (hb : ∀ a l c r, l.drop (bm false l) = c :: r → tokL (c :: r) = none → P a l)
    (ht : ∀ a l c r x, l.drop (bm false l) = c :: r → tokL (c :: r) = some x → P (a + bm false l + x.2.2.2) ((c :: r).drop x.2.2.2) → P a l) : ∀ (n : Nat) (a : Nat) (l : List UInt8), l.length ≤ n → P a l := by
  intro n
  induction n with
  | zero =>
    intro a l hl
    refine he a l ?_
    obtain rfl : l = [] := List.length_eq_zero_iff.1 (by omega)
    rfl
  | succ n ih =>
    intro a l hl
    cases h : l.drop (bm false l) with
    | nil => exact he a l h
    | cons c r =>
      cases hx : tokL (c :: r) with
      | none => exact hb a l c r h hx
      | some x =>
        obtain ⟨h1, h2⟩ := tok_len _ _ hx
        have hlen := congrArg List.length h
        rw [List.length_drop] at hlen
        exact ht a l c r x h hx (ih _ _ (by rw [List.length_drop]; omega))
theorem scanW_blank (a : Nat) (b : UInt8) (l : List UInt8) (h : blankC b = true) : scanW a (b :: l) = scanW (a + 1) l := by
  have hb : bm false (b :: l) = 1 + bm false l := by simp [bm, h]
  have hle := bm_le false l
  unfold scanW
  rw [hb, show a + (1 + bm false l) = a + 1 + bm false l by omega, Nat.add_comm 1 (bm false l), List.drop_succ_cons]
  have hc : (b :: l).length = l.length + 1 := rfl
  apply scanF_fuel <;> rw [List.length_drop] <;> omega
end Go.Proofs.YtdjcechogbcdnaaDoor.XL
namespace Go.Proofs.YtdjcechogbcdnaaDoor.XL
open Go.RowKit Go.Proofs.YtdjcechogbcdnaaDoorW.PrintWords Go.Proofs.YtdjcechogbcdnaaDoorW.PrintLast Go.Proofs.YtdjcechogbcdnaaDoorW.PrintMore
attribute [local go_sem] max2_int min2_int max_two min_two max_three min_three max_four min_four   -- for this text's walks alone
set_option linter.unusedVariables false
set_option linter.unusedSimpArgs false
def lex_Spell.f (k : Nat) (a0_0 : Int) (a0_1 : ByteArray) (a0_2 : Int) (a0_3 : Int) : Option (ByteArray) := if a0_0 = 2 then ((value_Print.f k 1 a0_2 (⟨#[]⟩ : ByteArray) ([] : List Int)).bind fun t338 => (some t338)) else (if a0_0 = 3 then ((value_Print.f k 3 0 a0_1 ([] : List Int)).bind fun t339 => (some t339)) else (if a0_0 = 4 then ((value_Print.f k 4 0 a0_1 ([] : List Int)).bind fun t340 => (some t340)) else (some a0_1)))
set_option maxHeartbeats 4000000 in
set_option maxRecDepth 100000 in
theorem lex_Spell.calls (k : Nat) (a0_0 : Int) (a0_1 : ByteArray) (a0_2 : Int) (a0_3 : Int) (r : ByteArray) (w : World) (h : lex_Spell.f k a0_0 a0_1 a0_2 a0_3 = some r) (hT : Tabs w) :
    Calls Tryd.prog 16 #[.agg #[.int .i64 a0_0, .string a0_1, .int .i64 a0_2, .int .i64 a0_3]] w fun e w' => e = .returned (.string r) ∧ Below w.heap.size w w' := by
  have HT := Aside0.mk hT
  clear hT
  have hu32 := Tryd.underlying32
  have hu60 := Tryd.underlying60
  have HB := Aside0.mk (Below.refl w.heap.size w)
  have H : (if a0_0 = 2 then ((value_Print.f k 1 a0_2 (⟨#[]⟩ : ByteArray) ([] : List Int)).bind fun t338 => (some t338)) else (if a0_0 = 3 then ((value_Print.f k 3 0 a0_1 ([] : List Int)).bind fun t339 => (some t339)) else (if a0_0 = 4 then ((value_Print.f k 4 0 a0_1 ([] : List Int)).bind fun t340 => (some t340)) else (some a0_1)))) = some r := h
  clear h
  by_cases c2 : a0_0 = 2
  · rw [if_pos c2] at H
    have c2b0 : (a0_0 == 2) = true := beq_iff_eq.mpr c2
    have c2b1 : (a0_0 != 2) = false := bne_eq_false_iff_eq.mpr c2
    clear c2
    replace H := Option.bind_eq_some_iff.mp H
    obtain ⟨t338, A30, H⟩ := H
    replace H : (some t338) = some r := H
    have A3 := Aside0.mk A30
    clear A30
    obtain rfl := Option.some.inj H
    go_enter Tryd.func16, Tryd.ntmps16
    go_wp2_with (first | ((with_reducible refine gate_dst (N := 1) rfl ?_); refine box_event ?hg (N := 1) ?hd (cs := #[.int .i64 a0_0, .string a0_1, .int .i64 a0_2, .int .i64 a0_3]) (t := 32) ?hr ?_; (case hd => rfl); (case hg => rfl); (case hr => first | (go_simp; done) | (go_simp; rfl)); intro gb337 hg w4 hbox hb; have n0_ := Aside0.mk (below_step (by repeat (first | (with_reducible first | exact HB.out | apply below_alloc | apply pw_below_drewN | apply below_drew1) | exact HB.out)) hb); have n1_ := Aside0.mk (hbox); have n2_ := Aside0.mk ((by rw [hg]; exact (below_size (by repeat (first | (with_reducible first | exact HB.out | apply below_alloc | apply pw_below_drewN | apply below_drew1) | exact HB.out))) : w.heap.size ≤ gb337)); have n3_ := Aside0.mk ((by rw [hg]; exact (below_size (by repeat (first | (with_reducible first | exact HB.out | apply below_alloc | apply pw_below_drewN | apply below_drew1) | exact HB.out))) : w.heap.size ≤ gb337)); clear HB; have HB := n0_; have BK337 := n1_; have GW337 := n2_; have GE337 := n3_; clear n0_ n1_ n2_ n3_; clear hb hbox hg; have hcz5_0 : w4.cell? ⟨gb337, 0, none⟩ = some (.int .i64 a0_0) := (blk_cell BK337.out 0).trans rfl; have hcz5_1 : w4.cell? ⟨gb337, 1, none⟩ = some (.string a0_1) := (blk_cell BK337.out 1).trans rfl; have hcz5_2 : w4.cell? ⟨gb337, 2, none⟩ = some (.int .i64 a0_2) := (blk_cell BK337.out 2).trans rfl; have hcz5_3 : w4.cell? ⟨gb337, 3, none⟩ = some (.int .i64 a0_3) := (blk_cell BK337.out 3).trans rfl; have hfz5_0 := blk_frozen BK337.out 0; have hfz5_1 := blk_frozen BK337.out 1; have hfz5_2 := blk_frozen BK337.out 2; have hfz5_3 := blk_frozen BK337.out 3) | ((with_reducible refine gate_callee (f := 32) rfl ?_); refine goesL_ (some 10) rfl rfl Tryd.func32 (by kernel_rfl) rfl #[.agg #[.int .i64 1, .int .i64 a0_2, .string (⟨#[]⟩ : ByteArray), .slice none 0 0]] rfl (by (try simp only [List.map_toArray, List.map_cons, List.map_nil]); first | done | rfl | (simp only [List.length_drop, List.length_take]; rfl)) ?_; (refine (value_Print.calls k 1 a0_2 (⟨#[]⟩ : ByteArray) _ _ ([] : List Int) t338 _ ?side1 ?side2 A3.out (Tabs.below HT.out (by repeat (first | (with_reducible first | exact HB.out | apply below_alloc | apply pw_below_drewN | apply below_drew1 | refine below_set ?_ GE337.out) | exact HB.out)))).mono ?_); (case side1 => exact Kd.C_nil _ _); (case side2 => exact Nat.le_refl _); rintro e w6 ⟨rfl, hb⟩; refine ⟨_, rfl, ?_⟩; have n0_ := Aside0.mk (blk_below (g := gb337) (o := .cells #[.int .i64 a0_0, .string a0_1, .int .i64 a0_2, .int .i64 a0_3] 32 (0, 0)) (by (with_reducible repeat (first | refine blk_drewN ?_ _ | refine blk_drew ?_ | refine blk_alloc ?_ _)); exact BK337.out) hb); have n1_ := Aside0.mk (below_step (by repeat (first | (with_reducible first | exact HB.out | apply below_alloc | apply pw_below_drewN | apply below_drew1 | refine below_set ?_ GE337.out) | exact HB.out)) hb); clear BK337; clear HB; have BK337 := n0_; have HB := n1_; clear n0_ n1_; (try clear hb); (try clear hb2); (try clear hk); (try clear hi)))
    go_ret
    exact ⟨by first | rfl | (simp [errW_none, errW_some] <;> rfl) | (simp [*, errW_none, errW_some] <;> rfl), by repeat (first | (with_reducible first | exact HB.out | apply below_alloc | apply pw_below_drewN | apply below_drew1 | refine below_set ?_ GE337.out) | exact HB.out)⟩
  · rw [if_neg c2] at H
    have c2b0 : (a0_0 == 2) = false := beq_eq_false_iff_ne.mpr c2
    have c2b1 : (a0_0 != 2) = true := bne_iff_ne.mpr c2
    by_cases c7 : a0_0 = 3
    · rw [if_pos c7] at H
      have c7b0 : (a0_0 == 3) = true := beq_iff_eq.mpr c7
      have c7b1 : (a0_0 != 3) = false := bne_eq_false_iff_eq.mpr c7
      clear c7
      replace H := Option.bind_eq_some_iff.mp H
      obtain ⟨t339, A80, H⟩ := H
      replace H : (some t339) = some r := H
      have A8 := Aside0.mk A80
      clear A80
      obtain rfl := Option.some.inj H
      go_enter Tryd.func16, Tryd.ntmps16
      go_wp2_with (first | ((with_reducible refine gate_dst (N := 1) rfl ?_); refine box_event ?hg (N := 1) ?hd (cs := #[.int .i64 a0_0, .string a0_1, .int .i64 a0_2, .int .i64 a0_3]) (t := 32) ?hr ?_; (case hd => rfl); (case hg => rfl); (case hr => first | (go_simp; done) | (go_simp; rfl)); intro gb337 hg w9 hbox hb; have n0_ := Aside0.mk (below_step (by repeat (first | (with_reducible first | exact HB.out | apply below_alloc | apply pw_below_drewN | apply below_drew1) | exact HB.out)) hb); have n1_ := Aside0.mk (hbox); have n2_ := Aside0.mk ((by rw [hg]; exact (below_size (by repeat (first | (with_reducible first | exact HB.out | apply below_alloc | apply pw_below_drewN | apply below_drew1) | exact HB.out))) : w.heap.size ≤ gb337)); have n3_ := Aside0.mk ((by rw [hg]; exact (below_size (by repeat (first | (with_reducible first | exact HB.out | apply below_alloc | apply pw_below_drewN | apply below_drew1) | exact HB.out))) : w.heap.size ≤ gb337)); clear HB; have HB := n0_; have BK337 := n1_; have GW337 := n2_; have GE337 := n3_; clear n0_ n1_ n2_ n3_; clear hb hbox hg; have hcz10_0 : w9.cell? ⟨gb337, 0, none⟩ = some (.int .i64 a0_0) := (blk_cell BK337.out 0).trans rfl; have hcz10_1 : w9.cell? ⟨gb337, 1, none⟩ = some (.string a0_1) := (blk_cell BK337.out 1).trans rfl; have hcz10_2 : w9.cell? ⟨gb337, 2, none⟩ = some (.int .i64 a0_2) := (blk_cell BK337.out 2).trans rfl; have hcz10_3 : w9.cell? ⟨gb337, 3, none⟩ = some (.int .i64 a0_3) := (blk_cell BK337.out 3).trans rfl; have hfz10_0 := blk_frozen BK337.out 0; have hfz10_1 := blk_frozen BK337.out 1; have hfz10_2 := blk_frozen BK337.out 2; have hfz10_3 := blk_frozen BK337.out 3) | ((with_reducible refine gate_callee (f := 32) rfl ?_); refine goesL_ (some 16) rfl rfl Tryd.func32 (by kernel_rfl) rfl #[.agg #[.int .i64 3, .int .i64 0, .string a0_1, .slice none 0 0]] rfl (by (try simp only [List.map_toArray, List.map_cons, List.map_nil]); first | done | rfl | (simp only [List.length_drop, List.length_take]; rfl)) ?_; (refine (value_Print.calls k 3 0 a0_1 _ _ ([] : List Int) t339 _ ?side1 ?side2 A8.out (Tabs.below HT.out (by repeat (first | (with_reducible first | exact HB.out | apply below_alloc | apply pw_below_drewN | apply below_drew1 | refine below_set ?_ GE337.out) | exact HB.out)))).mono ?_); (case side1 => exact Kd.C_nil _ _); (case side2 => exact Nat.le_refl _); rintro e w11 ⟨rfl, hb⟩; refine ⟨_, rfl, ?_⟩; have n0_ := Aside0.mk (blk_below (g := gb337) (o := .cells #[.int .i64 a0_0, .string a0_1, .int .i64 a0_2, .int .i64 a0_3] 32 (0, 0)) (by (with_reducible repeat (first | refine blk_drewN ?_ _ | refine blk_drew ?_ | refine blk_alloc ?_ _)); exact BK337.out) hb); have n1_ := Aside0.mk (below_step (by repeat (first | (with_reducible first | exact HB.out | apply below_alloc | apply pw_below_drewN | apply below_drew1 | refine below_set ?_ GE337.out) | exact HB.out)) hb); clear BK337; clear HB; have BK337 := n0_; have HB := n1_; clear n0_ n1_; (try clear hb); (try clear hb2); (try clear hk); (try clear hi)))
      go_ret
      exact ⟨by first | rfl | (simp [errW_none, errW_some] <;> rfl) | (simp [*, errW_none, errW_some] <;> rfl), by repeat (first | (with_reducible first | exact HB.out | apply below_alloc | apply pw_below_drewN | apply below_drew1 | refine below_set ?_ GE337.out) | exact HB.out)⟩
    · rw [if_neg c7] at H
      have c7b0 : (a0_0 == 3) = false := beq_eq_false_iff_ne.mpr c7
      have c7b1 : (a0_0 != 3) = true := bne_iff_ne.mpr c7
      by_cases c12 : a0_0 = 4
      · rw [if_pos c12] at H
        have c12b0 : (a0_0 == 4) = true := beq_iff_eq.mpr c12
        have c12b1 : (a0_0 != 4) = false := bne_eq_false_iff_eq.mpr c12
        clear c12
        replace H := Option.bind_eq_some_iff.mp H
        obtain ⟨t340, A130, H⟩ := H
        replace H : (some t340) = some r := H
        have A13 := Aside0.mk A130
        clear A130
        obtain rfl := Option.some.inj H
        go_enter Tryd.func16, Tryd.ntmps16
        go_wp2_with (first | ((with_reducible refine gate_dst (N := 1) rfl ?_); refine box_event ?hg (N := 1) ?hd (cs := #[.int .i64 a0_0, .string a0_1, .int .i64 a0_2, .int .i64 a0_3]) (t := 32) ?hr ?_; (case hd => rfl); (case hg => rfl); (case hr => first | (go_simp; done) | (go_simp; rfl)); intro gb337 hg w14 hbox hb; have n0_ := Aside0.mk (below_step (by repeat (first | (with_reducible first | exact HB.out | apply below_alloc | apply pw_below_drewN | apply below_drew1) | exact HB.out)) hb); have n1_ := Aside0.mk (hbox); have n2_ := Aside0.mk ((by rw [hg]; exact (below_size (by repeat (first | (with_reducible first | exact HB.out | apply below_alloc | apply pw_below_drewN | apply below_drew1) | exact HB.out))) : w.heap.size ≤ gb337)); have n3_ := Aside0.mk ((by rw [hg]; exact (below_size (by repeat (first | (with_reducible first | exact HB.out | apply below_alloc | apply pw_below_drewN | apply below_drew1) | exact HB.out))) : w.heap.size ≤ gb337)); clear HB; have HB := n0_; have BK337 := n1_; have GW337 := n2_; have GE337 := n3_; clear n0_ n1_ n2_ n3_; clear hb hbox hg; have hcz15_0 : w14.cell? ⟨gb337, 0, none⟩ = some (.int .i64 a0_0) := (blk_cell BK337.out 0).trans rfl; have hcz15_1 : w14.cell? ⟨gb337, 1, none⟩ = some (.string a0_1) := (blk_cell BK337.out 1).trans rfl; have hcz15_2 : w14.cell? ⟨gb337, 2, none⟩ = some (.int .i64 a0_2) := (blk_cell BK337.out 2).trans rfl; have hcz15_3 : w14.cell? ⟨gb337, 3, none⟩ = some (.int .i64 a0_3) := (blk_cell BK337.out 3).trans rfl; have hfz15_0 := blk_frozen BK337.out 0; have hfz15_1 := blk_frozen BK337.out 1; have hfz15_2 := blk_frozen BK337.out 2; have hfz15_3 := blk_frozen BK337.out 3) | ((with_reducible refine gate_callee (f := 32) rfl ?_); refine goesL_ (some 22) rfl rfl Tryd.func32 (by kernel_rfl) rfl #[.agg #[.int .i64 4, .int .i64 0, .string a0_1, .slice none 0 0]] rfl (by (try simp only [List.map_toArray, List.map_cons, List.map_nil]); first | done | rfl | (simp only [List.length_drop, List.length_take]; rfl)) ?_; (refine (value_Print.calls k 4 0 a0_1 _ _ ([] : List Int) t340 _ ?side1 ?side2 A13.out (Tabs.below HT.out (by repeat (first | (with_reducible first | exact HB.out | apply below_alloc | apply pw_below_drewN | apply below_drew1 | refine below_set ?_ GE337.out) | exact HB.out)))).mono ?_); (case side1 => exact Kd.C_nil _ _); (case side2 => exact Nat.le_refl _); rintro e w16 ⟨rfl, hb⟩; refine ⟨_, rfl, ?_⟩; have n0_ := Aside0.mk (blk_below (g := gb337) (o := .cells #[.int .i64 a0_0, .string a0_1, .int .i64 a0_2, .int .i64 a0_3] 32 (0, 0)) (by (with_reducible repeat (first | refine blk_drewN ?_ _ | refine blk_drew ?_ | refine blk_alloc ?_ _)); exact BK337.out) hb); have n1_ := Aside0.mk (below_step (by repeat (first | (with_reducible first | exact HB.out | apply below_alloc | apply pw_below_drewN | apply below_drew1 | refine below_set ?_ GE337.out) | exact HB.out)) hb); clear BK337; clear HB; have BK337 := n0_; have HB := n1_; clear n0_ n1_; (try clear hb); (try clear hb2); (try clear hk); (try clear hi)))
        go_ret
        exact ⟨by first | rfl | (simp [errW_none, errW_some] <;> rfl) | (simp [*, errW_none, errW_some] <;> rfl), by repeat (first | (with_reducible first | exact HB.out | apply below_alloc | apply pw_below_drewN | apply below_drew1 | refine below_set ?_ GE337.out) | exact HB.out)⟩
      · rw [if_neg c12] at H
        have c12b0 : (a0_0 == 4) = false := beq_eq_false_iff_ne.mpr c12
        have c12b1 : (a0_0 != 4) = true := bne_iff_ne.mpr c12
        obtain rfl := Option.some.inj H
        go_enter Tryd.func16, Tryd.ntmps16
        go_wp2_with (first | ((with_reducible refine gate_dst (N := 1) rfl ?_); refine box_event ?hg (N := 1) ?hd (cs := #[.int .i64 a0_0, .string a0_1, .int .i64 a0_2, .int .i64 a0_3]) (t := 32) ?hr ?_; (case hd => rfl); (case hg => rfl); (case hr => first | (go_simp; done) | (go_simp; rfl)); intro gb337 hg w17 hbox hb; have n0_ := Aside0.mk (below_step (by repeat (first | (with_reducible first | exact HB.out | apply below_alloc | apply pw_below_drewN | apply below_drew1) | exact HB.out)) hb); have n1_ := Aside0.mk (hbox); have n2_ := Aside0.mk ((by rw [hg]; exact (below_size (by repeat (first | (with_reducible first | exact HB.out | apply below_alloc | apply pw_below_drewN | apply below_drew1) | exact HB.out))) : w.heap.size ≤ gb337)); have n3_ := Aside0.mk ((by rw [hg]; exact (below_size (by repeat (first | (with_reducible first | exact HB.out | apply below_alloc | apply pw_below_drewN | apply below_drew1) | exact HB.out))) : w.heap.size ≤ gb337)); clear HB; have HB := n0_; have BK337 := n1_; have GW337 := n2_; have GE337 := n3_; clear n0_ n1_ n2_ n3_; clear hb hbox hg; have hcz18_0 : w17.cell? ⟨gb337, 0, none⟩ = some (.int .i64 a0_0) := (blk_cell BK337.out 0).trans rfl; have hcz18_1 : w17.cell? ⟨gb337, 1, none⟩ = some (.string a0_1) := (blk_cell BK337.out 1).trans rfl; have hcz18_2 : w17.cell? ⟨gb337, 2, none⟩ = some (.int .i64 a0_2) := (blk_cell BK337.out 2).trans rfl; have hcz18_3 : w17.cell? ⟨gb337, 3, none⟩ = some (.int .i64 a0_3) := (blk_cell BK337.out 3).trans rfl; have hfz18_0 := blk_frozen BK337.out 0; have hfz18_1 := blk_frozen BK337.out 1; have hfz18_2 := blk_frozen BK337.out 2; have hfz18_3 := blk_frozen BK337.out 3))
        go_ret
        exact ⟨by first | rfl | (simp [errW_none, errW_some] <;> rfl) | (simp [*, errW_none, errW_some] <;> rfl), by repeat (first | (with_reducible first | exact HB.out | apply below_alloc | apply pw_below_drewN | apply below_drew1 | refine below_set ?_ GE337.out) | exact HB.out)⟩
def lex_Join.l0 : Nat → List ByteArray → List (S32) → Int → Int → Option (ByteArray)
  | 0, _, _, _, _ => none
  | k + 1, x3, x6, x7, x8 => if x8 < x7 then (if 0 ≤ x8 then (if x8 < (x6.length : Int) then ((lex_Spell.f k ((rd_T32 x6 x8).f0) ((rd_T32 x6 x8).f1) ((rd_T32 x6 x8).f2) ((rd_T32 x6 x8).f3)).bind fun t343 => (if x3.length < 8796093022208 then (lex_Join.l0 k (x3 ++ [t343]) x6 x7 (wrap64 (x8 + 1))) else (none))) else (none)) else (none)) else ((strings_Join.f x3 (⟨#[32]⟩ : ByteArray)).bind fun t347 => (some t347))
def lex_Join.f (k : Nat) (l0 : List (S32)) : Option (ByteArray) := lex_Join.l0 k ([] : List ByteArray) l0 (l0.length : Int) 0
set_option maxHeartbeats 4000000 in
set_option maxRecDepth 100000 in
theorem lex_Join.calls (k : Nat) (A0 : Option Addr) (c0 : Nat) (l0 : List (S32)) (r : ByteArray) (w : World) (hr0 : Kd.C k32 w A0 l0.length l0) (hc0 : l0.length ≤ c0) (h : lex_Join.f k l0 = some r) (hT : Tabs w) :
    Calls Tryd.prog 11 #[.slice A0 l0.length c0] w fun e w' => e = .returned (.string r) ∧ Below w.heap.size w w' := by
  have HT := Aside0.mk hT
  clear hT
  have hu32 := Tryd.underlying32
  have HR0 := Aside0.mk hr0
  have HC0 := Aside0.mk hc0
  clear hr0 hc0
  have HB := Aside0.mk (Below.refl w.heap.size w)
  have H : (lex_Join.l0 k ([] : List ByteArray) l0 (l0.length : Int) 0) = some r := h
  clear h
  have H' := Aside0.mk H
  clear H
  go_enter Tryd.func11, Tryd.ntmps11
  go_wp2
  go_loopg [3, 8] k (fun kq v3 v8 w' => ∃ (x3_1 : List ByteArray) (x8_1 : Int), v8 = .int .i64 x8_1 ∧ Aside0 (lex_Join.l0 kq x3_1 l0 (l0.length : Int) x8_1 = some r) ∧ Aside0 (kq ≤ k) ∧ Aside0 (Kd.R Kd.string 9 w' w.heap.size (fun _ => True) v3 x3_1) ∧ Aside0 (Below w.heap.size w w'))
  case atStart => exact ⟨(([] : List ByteArray)), (0), (by first | rfl | (simp; done) | (simp [*]; done)), H', ⟨Nat.le_refl _⟩, ⟨by first | exact Kd.R_nil _ _ _ _ _ | exact Kd.N_nil _ _ _ _ _ | exact Kd.V_nil _ _ _ _ _ | exact Kd.Q_nil _ _ _ _ _ | exact Kd.S_nil _ _ _ _ _⟩, ⟨by repeat (first | (with_reducible first | exact HB.out | apply below_alloc | apply pw_below_drewN | apply below_drew1) | exact HB.out)⟩⟩
  case round =>
    clear H'
    try clear c1
    obtain ⟨x3_1, x8_1, rfl, HA, HK1, HO_3, HB⟩ := hrel
    cases gk with
    | zero => exact absurd HA.out (by simp [lex_Join.l0])
    | succ k1 =>
      have H := HA.out
      clear HA
      simp only [lex_Join.l0] at H
      by_cases c2 : x8_1 < (l0.length : Int)
      · rw [if_pos c2] at H
        have c2b0 : decide (x8_1 < (l0.length : Int)) = true := decide_eq_true c2
        clear c2
        by_cases c3 : 0 ≤ x8_1
        · rw [if_pos c3] at H
          have c3b0 : decide (0 ≤ x8_1) = true := decide_eq_true c3
          clear c3
          by_cases c4 : x8_1 < (l0.length : Int)
          · rw [if_pos c4] at H
            have c4b0 : decide (x8_1 < (l0.length : Int)) = true := decide_eq_true c4
            clear c4
            replace H := Option.bind_eq_some_iff.mp H
            obtain ⟨t343, A50, H⟩ := H
            replace H : (if x3_1.length < 8796093022208 then (lex_Join.l0 k1 (x3_1 ++ [t343]) l0 (l0.length : Int) (wrap64 (x8_1 + 1))) else (none)) = some r := H
            have A5 := Aside0.mk A50
            clear A50
            by_cases c6 : x3_1.length < 8796093022208
            · rw [if_pos c6] at H
              have LMc6 := Aside0.mk c6
              clear c6
              obtain ⟨y344, hy344⟩ : ∃ y_ : List ByteArray, y_ = (x3_1 ++ [t343]) := ⟨_, rfl⟩
              replace H : (lex_Join.l0 k1 y344 l0 (l0.length : Int) (wrap64 (x8_1 + 1))) = some r := by first | (rw [hy344]; with_reducible exact H) | (have H2_ := (Option.bind_some _ _).symm.trans H; rw [hy344]; with_reducible exact H2_) | (have H2_ := (Option.bind_some _ _).symm.trans H; with_reducible exact H2_) | with_reducible exact H | (rw [hy344]; exact H) | exact H
              have Ny344 := Aside0.mk hy344
              clear hy344
              have H' := Aside0.mk H
              clear H
              have p341 : 0 ≤ (x8_1 : Int) := of_decide_eq_true (by first | (with_reducible assumption) | assumption)
              have q341 : x8_1 < (l0.length : Int) := of_decide_eq_true (by first | (with_reducible assumption) | assumption)
              obtain ⟨ad341, e341, hx341_0, hx341_1, hx341_2, hx341_3⟩ := at_T32 HR0.out x8_1 p341 q341
              cases e341
              replace hx341_0 := (HB.out.cell (World.block_lt_of_cell? w _ hx341_0)).trans hx341_0
              replace hx341_1 := (HB.out.cell (World.block_lt_of_cell? w _ hx341_1)).trans hx341_1
              replace hx341_2 := (HB.out.cell (World.block_lt_of_cell? w _ hx341_2)).trans hx341_2
              replace hx341_3 := (HB.out.cell (World.block_lt_of_cell? w _ hx341_3)).trans hx341_3
              replace p341 := eq_true p341
              replace q341 := eq_true q341
              go_wp2_with (first | ((with_reducible refine gate_dst (N := 5) rfl ?_); refine box_event ?hg (N := 5) ?hd (cs := #[.int .i64 0, .string (⟨#[]⟩ : ByteArray), .int .i64 0, .int .i64 0]) (t := 32) ?hr ?_; (case hd => rfl); (case hg => rfl); (case hr => first | (go_simp; done) | (go_simp; rfl)); intro gb342 hg w7 hbox hb; have n0_ := Aside0.mk (Kd.R_below (by (with_reducible repeat (first | apply Kd.R_alloc | apply Kd.R_drewN | apply Kd.R_drew)); exact HO_3.out) hb); have n1_ := Aside0.mk (below_step (by repeat (first | (with_reducible first | exact HB.out | apply below_alloc | apply pw_below_drewN | apply below_drew1) | exact HB.out)) hb); have n2_ := Aside0.mk (hbox); have n3_ := Aside0.mk ((by rw [hg]; exact (below_size (by repeat (first | (with_reducible first | exact HB.out | apply below_alloc | apply pw_below_drewN | apply below_drew1) | exact HB.out))) : w.heap.size ≤ gb342)); have n4_ := Aside0.mk ((by rw [hg]; exact (below_size (by repeat (first | (with_reducible first | exact HB.out | apply below_alloc | apply pw_below_drewN | apply below_drew1) | exact HB.out))) : w.heap.size ≤ gb342)); clear HO_3; clear HB; have HO_3 := n0_; have HB := n1_; have BK342 := n2_; have GW342 := n3_; have GE342 := n4_; clear n0_ n1_ n2_ n3_ n4_; clear hb hbox hg; have hcz8_0 : w7.cell? ⟨gb342, 0, none⟩ = some (.int .i64 0) := (blk_cell BK342.out 0).trans rfl; have hcz8_1 : w7.cell? ⟨gb342, 1, none⟩ = some (.string (⟨#[]⟩ : ByteArray)) := (blk_cell BK342.out 1).trans rfl; have hcz8_2 : w7.cell? ⟨gb342, 2, none⟩ = some (.int .i64 0) := (blk_cell BK342.out 2).trans rfl; have hcz8_3 : w7.cell? ⟨gb342, 3, none⟩ = some (.int .i64 0) := (blk_cell BK342.out 3).trans rfl; have hfz8_0 := blk_frozen BK342.out 0; have hfz8_1 := blk_frozen BK342.out 1; have hfz8_2 := blk_frozen BK342.out 2; have hfz8_3 := blk_frozen BK342.out 3) | ((with_reducible refine gate_callee (f := 16) rfl ?_); refine goesL_ (some 14) rfl rfl Tryd.func16 (by kernel_rfl) rfl #[.agg #[.int .i64 ((rd_T32 l0 x8_1).f0), .string ((rd_T32 l0 x8_1).f1), .int .i64 ((rd_T32 l0 x8_1).f2), .int .i64 ((rd_T32 l0 x8_1).f3)]] rfl (by (try simp only [List.map_toArray, List.map_cons, List.map_nil]); first | done | rfl | (simp only [List.length_drop, List.length_take]; rfl)) ?_; (with_reducible refine (lex_Spell.calls k1 ((rd_T32 l0 x8_1).f0) ((rd_T32 l0 x8_1).f1) ((rd_T32 l0 x8_1).f2) ((rd_T32 l0 x8_1).f3) t343 _ A5.out (Tabs.below HT.out (by repeat (first | (with_reducible first | exact HB.out | apply below_alloc | apply pw_below_drewN | apply below_drew1 | refine below_set ?_ GE342.out) | exact HB.out)))).mono ?_); rintro e w9 ⟨rfl, hb⟩; refine ⟨_, rfl, ?_⟩; have n0_ := Aside0.mk (Kd.R_below (by (with_reducible repeat (first | apply Kd.R_alloc | apply Kd.R_drewN | apply Kd.R_drew)); exact (Kd.R_mono (Kd.R_far (p := ⟨gb342, 3, none⟩) (Kd.R_far (p := ⟨gb342, 2, none⟩) (Kd.R_far (p := ⟨gb342, 1, none⟩) (Kd.R_far (p := ⟨gb342, 0, none⟩) (Kd.R_types HO_3.out BK342.out (by decide)) (fun _ hk => hk.2) (.int .i64 ((rd_T32 l0 x8_1).f0))) (fun _ hk => hk.2) (.string ((rd_T32 l0 x8_1).f1))) (fun _ hk => hk.2) (.int .i64 ((rd_T32 l0 x8_1).f2))) (fun _ hk => hk.2) (.int .i64 ((rd_T32 l0 x8_1).f3))) (fun _ h_ => h_.1))) hb); have n1_ := Aside0.mk (blk_below (g := gb342) (o := .cells #[.int .i64 ((rd_T32 l0 x8_1).f0), .string ((rd_T32 l0 x8_1).f1), .int .i64 ((rd_T32 l0 x8_1).f2), .int .i64 ((rd_T32 l0 x8_1).f3)] 32 (0, 0)) (by (with_reducible repeat (first | refine blk_drewN ?_ _ | refine blk_drew ?_ | refine blk_alloc ?_ _)); refine blk_put (cs := #[.int .i64 ((rd_T32 l0 x8_1).f0), .string ((rd_T32 l0 x8_1).f1), .int .i64 ((rd_T32 l0 x8_1).f2), .int .i64 0]) ?_ 3 _ rfl; (with_reducible repeat (first | refine blk_drewN ?_ _ | refine blk_drew ?_ | refine blk_alloc ?_ _)); refine blk_put (cs := #[.int .i64 ((rd_T32 l0 x8_1).f0), .string ((rd_T32 l0 x8_1).f1), .int .i64 0, .int .i64 0]) ?_ 2 _ rfl; (with_reducible repeat (first | refine blk_drewN ?_ _ | refine blk_drew ?_ | refine blk_alloc ?_ _)); refine blk_put (cs := #[.int .i64 ((rd_T32 l0 x8_1).f0), .string (⟨#[]⟩ : ByteArray), .int .i64 0, .int .i64 0]) ?_ 1 _ rfl; (with_reducible repeat (first | refine blk_drewN ?_ _ | refine blk_drew ?_ | refine blk_alloc ?_ _)); refine blk_put (cs := #[.int .i64 0, .string (⟨#[]⟩ : ByteArray), .int .i64 0, .int .i64 0]) ?_ 0 _ rfl; (with_reducible repeat (first | refine blk_drewN ?_ _ | refine blk_drew ?_ | refine blk_alloc ?_ _)); exact BK342.out) hb); have n2_ := Aside0.mk (below_step (by repeat (first | (with_reducible first | exact HB.out | apply below_alloc | apply pw_below_drewN | apply below_drew1 | refine below_set ?_ GE342.out) | exact HB.out)) hb); clear HO_3; clear BK342; clear HB; have HO_3 := n0_; have BK342 := n1_; have HB := n2_; clear n0_ n1_ n2_; (try clear hb); (try clear hb2); (try clear hk); (try clear hi)) | ((with_reducible refine gate_builtin (b := .append) (xs := #[.tmp 12, .tmp 15]) rfl ?_); at_builtin; refine Kd.R_append Kd.string (w0 := w) w.heap.size rfl (.tmp 12) (.tmp 15) 40 9 (.string ⟨#[]⟩) 16 rfl Tryd.underlying40 info9 rfl (by decide) (by omega) u3 x3_1 t343 [.string t343] (fun _ => True) (fun _ => False) rfl rfl ?aP (fun _ hk => hk.elim) ?aF ?aO ?aB ?aS ?aL ?_; (case aP => exact rfl); (case aB => exact (by repeat (first | (with_reducible first | exact HB.out | apply below_alloc | apply pw_below_drewN | apply below_drew1 | refine below_set ?_ GE342.out) | exact HB.out))); (case aF => exact (fun _ _ => trivial)); (case aO => exact (by (with_reducible repeat (first | apply Kd.R_alloc | apply Kd.R_drewN | apply Kd.R_drew)); exact HO_3.out)); (case aS => exact (below_size (by repeat (first | (with_reducible first | exact HB.out | apply below_alloc | apply pw_below_drewN | apply below_drew1 | refine below_set ?_ GE342.out) | exact HB.out)))); (case aL => have := LMc6.out; omega); intro v345 w10 ho hb hg hat; rw [← Ny344.out] at ho; have n0_ := Aside0.mk (blk_grown (g := gb342) (o := .cells #[.int .i64 ((rd_T32 l0 x8_1).f0), .string ((rd_T32 l0 x8_1).f1), .int .i64 ((rd_T32 l0 x8_1).f2), .int .i64 ((rd_T32 l0 x8_1).f3)] 32 (0, 0)) (by (with_reducible repeat (first | refine blk_drewN ?_ _ | refine blk_drew ?_ | refine blk_alloc ?_ _)); exact BK342.out) hg (Kd.R_ne HO_3.out BK342.out (by decide))); have n1_ := Aside0.mk (hb); have n2_ := Aside0.mk (ho); clear BK342; clear HB; clear HO_3; have BK342 := n0_; have HB := n1_; have HO346 := n2_; clear n0_ n1_ n2_; clear ho hb hg hat))
              go_roundg k1
              case measure => have := HK1.out; omega
              case rel => exact ⟨(y344), (wrap64 (x8_1 + 1)), (by first | rfl | (simp; done) | (simp [*]; done)), H', ⟨by have := HK1.out; omega⟩, ⟨by (with_reducible repeat (first | apply Kd.R_alloc | apply Kd.R_drewN | apply Kd.R_drew)); exact HO346.out⟩, ⟨by repeat (first | (with_reducible first | exact HB.out | apply below_alloc | apply pw_below_drewN | apply below_drew1 | refine below_set ?_ GE342.out) | exact HB.out)⟩⟩
            · rw [if_neg c6] at H
              exact absurd H (by simp)
          · rw [if_neg c4] at H
            exact absurd H (by simp)
        · rw [if_neg c3] at H
          exact absurd H (by simp)
      · rw [if_neg c2] at H
        have c2b0 : decide (x8_1 < (l0.length : Int)) = false := decide_eq_false c2
        clear c2
        replace H := Option.bind_eq_some_iff.mp H
        obtain ⟨t347, A110, H⟩ := H
        replace H : (some t347) = some r := H
        have A11 := Aside0.mk A110
        clear A110
        obtain rfl := Option.some.inj H
        obtain ⟨Ao12, co12, eo12⟩ := Kd.R_slice HO_3.out
        subst eo12
        go_wp2_with (first | ((with_reducible refine gate_callee (f := 17) rfl ?_); refine goesL_ (some 19) rfl rfl Tryd.func17 (by kernel_rfl) rfl #[.slice Ao12 x3_1.length co12, .string (⟨#[32]⟩ : ByteArray)] rfl (by (try simp only [List.map_toArray, List.map_cons, List.map_nil]); first | done | rfl | (simp only [List.length_drop, List.length_take]; rfl)) ?_; (with_reducible refine (strings_Join.calls _ _ x3_1 (⟨#[32]⟩ : ByteArray) t347 _ ?side1 ?side2 A11.out).mono ?_); (case side1 => repeat (first | exact (Kd.R_reads' HO_3.out).2.2 | (with_reducible refine Kd.C_alloc ?_ _) | (with_reducible refine Kd.C_drewN ?_ _) | (with_reducible refine Kd.C_drew ?_))); (case side2 => exact (Kd.R_reads' HO_3.out).2.1); rintro e w13 ⟨rfl, hb⟩; refine ⟨_, rfl, ?_⟩; have n0_ := Aside0.mk (Kd.R_below (by (with_reducible repeat (first | apply Kd.R_alloc | apply Kd.R_drewN | apply Kd.R_drew)); exact HO_3.out) hb); have n1_ := Aside0.mk (below_step (by repeat (first | (with_reducible first | exact HB.out | apply below_alloc | apply pw_below_drewN | apply below_drew1) | exact HB.out)) hb); clear HO_3; clear HB; have HO_3 := n0_; have HB := n1_; clear n0_ n1_; (try clear hb); (try clear hb2); (try clear hk); (try clear hi)))
        go_ret
        exact ⟨by first | rfl | (simp [errW_none, errW_some] <;> rfl) | (simp [*, errW_none, errW_some] <;> rfl), by repeat (first | (with_reducible first | exact HB.out | apply below_alloc | apply pw_below_drewN | apply below_drew1) | exact HB.out)⟩
end Go.Proofs.YtdjcechogbcdnaaDoor.XL
namespace Go.Proofs.YtdjcechogbcdnaaDoor.XL
open Go.RowKit Go.Proofs.YtdjcechogbcdnaaDoorW.PrintWords Go.Proofs.YtdjcechogbcdnaaDoorW.PrintLast Go.Proofs.YtdjcechogbcdnaaDoorW.PrintMore
set_option linter.unusedVariables false
set_option linter.unusedSimpArgs false
theorem valD_snoc (v : List UInt8) (c : UInt8) : valD (v ++ [c]) = 10 * valD v + (c.toNat - 48) := by simp [valD, List.foldl_append]
theorem dig_back {c : UInt8} (h : digC c = true) : UInt8.ofNat (48 + (c.toNat - 48)) = c := by
  have := dig_bounds h
  rw [show 48 + (c.toNat - 48) = c.toNat by omega, UInt8.ofNat_toNat]
/-- Digits without a nought ahead are those of their number. -/
theorem dec_val : ∀ (n : Nat) (w : List UInt8), w.length = n → w ≠ [] → (∀ c ∈ w, digC c = true) → ¬ (1 < w.length ∧ w.head? = some 48) → Lib.decDigits (valD w) = w := by
  intro n
  induction n with
  | zero => intro w hn hne; exact absurd (List.length_eq_zero_iff.1 hn) hne
  | succ n ih =>
    intro w hn hne hd hz
    have hw := (List.dropLast_concat_getLast hne).symm
    generalize hv : w.dropLast = v at hw
    generalize w.getLast hne = c at hw
    subst hw
    have hc := hd c (by simp)
    have hb := dig_bounds hc
    rw [List.length_append, List.length_cons, List.length_nil] at hn
    rw [valD_snoc]
    cases v with
    | nil =>
      rw [show 10 * valD [] + (c.toNat - 48) = c.toNat - 48 by simp [valD], dig1 _ (by omega), dig_back hc]; rfl
    | cons d v =>
      have hdd := dig_bounds (hd d (by simp))
      have hd48 : d ≠ 48 := fun e => hz ⟨by simp, by rw [e]; rfl⟩
      have hd49 : 49 ≤ d.toNat := by
        rcases Nat.lt_or_ge 48 d.toNat with h | h
        · exact h
        · exact absurd (UInt8.toNat_inj.1 (show d.toNat = (48 : UInt8).toNat by show d.toNat = 48; omega)) hd48
      have hv1 : 1 ≤ valD (d :: v) := by
        rw [valD_cons]
        have h10 : 1 ≤ 10 ^ v.length := Nat.one_le_iff_ne_zero.2 (by simp)
        have := Nat.mul_le_mul (show 1 ≤ d.toNat - 48 by omega) h10
        omega
      have h1 := ih (d :: v) (by omega) (by simp) (fun x hx => hd x (List.mem_append_left _ hx)) (fun hh => hd48 (Option.some.inj hh.2))
      generalize valD (d :: v) = m at hv1 h1 ⊢
      rw [Lib.decDigits, dif_neg (by omega), show (10 * m + (c.toNat - 48)) / 10 = m by omega, show (10 * m + (c.toNat - 48)) % 10 = c.toNat - 48 by omega, h1, dig_back hc]
theorem pre_take {z l : List UInt8} (h : z <+: l) : l.take z.length = z := (List.prefix_iff_eq_take.1 h).symm
/-- A token is spelled as it stood there. -/
theorem spell_tok {u : List UInt8} {x : Tk} (h : tokL u = some x) (at_ : Int) : Ev (fun k => lex_Spell.f k x.1 (mk x.2.1) x.2.2.1 at_) (mk (u.take x.2.2.2)) := by
  cases u with
  | nil => simp [tokL] at h
  | cons c r =>
    rw [tokL_cons] at h
    unfold lex_Spell.f
    by_cases h1 : letC c = true
    · rw [if_pos h1] at h
      unfold wordTk at h
      split at h
      · obtain rfl := Option.some.inj h
        refine Ev.neg (by simp) (Ev.neg (by simp) (Ev.neg (by simp) (Ev.val ?_)))
        simp only [tw_take]
      · cases h
    rw [if_neg h1] at h
    by_cases h2 : digC c = true
    · rw [if_pos h2] at h
      unfold numTk at h
      split at h
      · rename_i hn
        obtain rfl := Option.some.inj h
        refine Ev.pos rfl (Ev.bind (print_ev 1 _ _ [] (by first | (simp [rightB]; done) | (simp [rightB]; rfl)) (by simp only; omega) (by simp only; omega) (fun _ hx => by cases hx)) (Ev.val ?_))
        have hne : (c :: r).takeWhile digC ≠ [] := by rw [List.takeWhile_cons, if_pos h2]; simp
        simp only [tw_take]
        show mk (printL 1 _ _ []) = _
        rw [show printL 1 (valD ((c :: r).takeWhile digC) : Int) (⟨#[]⟩ : ByteArray) [] = Lib.itoa (valD ((c :: r).takeWhile digC) : Int) from rfl]
        unfold Lib.itoa
        rw [if_neg (by omega), Int.toNat_natCast, dec_val _ _ rfl hne (tw_all _) hn.2]
      · cases h
    rw [if_neg h2] at h
    by_cases h3 : c = 34
    · rw [if_pos h3] at h
      obtain ⟨t, ht, hp, rfl⟩ := textTk_is h
      refine Ev.neg (by simp) (Ev.pos rfl (Ev.bind (print_text t ht) (Ev.val ?_)))
      simp only [pre_take hp]
    rw [if_neg h3] at h
    by_cases h4 : c = 39
    · rw [if_pos h4] at h
      unfold wordTk at h
      split at h
      · rename_i hn
        obtain rfl := Option.some.inj h
        refine Ev.neg (by simp) (Ev.neg (by simp) (Ev.pos rfl (Ev.bind (print_ev 4 0 _ [] ?_ (by decide) (by decide) (fun _ hx => by cases hx)) (Ev.val ?_))))
        · have hn' : nameB (mk (r.takeWhile wordC)) = true := hn
          simp [rightB, hn']
        · show mk (printL 4 0 _ []) = _
          rw [show printL 4 0 (mk (r.takeWhile wordC)) [] = 39 :: (mk (r.takeWhile wordC)).data.toList from rfl, mkd, h4]
          simp only [Nat.add_comm 1, List.take_succ_cons, tw_take]
      · cases h
    rw [if_neg h4] at h
    unfold signTk at h
    cases hf : signL.find? (fun z => z.isPrefixOf (c :: r)) with
    | none => rw [hf] at h; cases h
    | some z =>
      rw [hf] at h
      obtain rfl := Option.some.inj h
      have hz := List.find?_some hf
      refine Ev.neg (by simp) (Ev.neg (by simp) (Ev.neg (by simp) (Ev.val ?_)))
      simp only [pre_take (List.isPrefixOf_iff_prefix.1 hz)]
theorem join_two (x y sep : List UInt8) (r : List (List UInt8)) : Lib.join (x :: y :: r) sep = x ++ (sep ++ Lib.join (y :: r) sep) := by
  rw [Lib.join_cons, Lib.join_cons]
  simp [Lib.joinTail]
/-- What a token says, its place aside. -/
def bare (t : S32) : S32 := ⟨t.f0, t.f1, t.f2, 0⟩
def spells (t : S32) (w : List UInt8) : Prop := Ev (fun k => lex_Spell.f k t.f0 t.f1 t.f2 t.f3) (mk w)
def AllS : List S32 → List (List UInt8) → Prop
  | [], [] => True
  | t :: ts, w :: ws => spells t w ∧ AllS ts ws
  | _, _ => False
theorem AllS.len : ∀ {ts : List S32} {ws : List (List UInt8)}, AllS ts ws → ts.length = ws.length
  | [], [], _ => rfl
  | t :: ts, w :: ws, h => by rw [List.length_cons, List.length_cons, AllS.len h.2]
theorem AllS.get : ∀ {ts : List S32} {ws : List (List UInt8)} (h : AllS ts ws) (i : Nat) (h1 : i < ts.length) (h2 : i < ws.length), spells ts[i] ws[i]
  | t :: ts, w :: ws, h, 0, _, _ => h.1
  | t :: ts, w :: ws, h, i + 1, h1, h2 => AllS.get h.2 i (Nat.lt_of_succ_lt_succ h1) (Nat.lt_of_succ_lt_succ h2)
/-- The tokens of a text, spelled and joined, are scanned as they were. -/
theorem scanW_back : ∀ (n a : Nat) (l : List UInt8), l.length ≤ n → ∀ ts, scanW a l = .inl ts → ∃ ws : List (List UInt8), ws ≠ [] ∧ AllS ts ws ∧ (∀ w ∈ ws, w.length ≤ l.length) ∧ ∀ b, ∃ us, scanW b (Lib.join ws [32]) = .inl us ∧ us.map bare = ts.map bare := by
  refine scanW_ind (P := fun a l => ∀ ts, scanW a l = .inl ts → ∃ ws : List (List UInt8), ws ≠ [] ∧ AllS ts ws ∧ (∀ w ∈ ws, w.length ≤ l.length) ∧ ∀ b, ∃ us, scanW b (Lib.join ws [32]) = .inl us ∧ us.map bare = ts.map bare) ?_ ?_ ?_
  · intro a l h ts hs
    rw [scanW_end h] at hs
    obtain rfl := Sum.inl.inj hs
    refine ⟨[[]], by simp, ⟨?_, trivial⟩, by simp, fun b => ⟨_, scanW_end (l := Lib.join [[]] [32]) (by rw [Lib.join_one]; rfl), rfl⟩⟩
    unfold spells lex_Spell.f
    exact Ev.neg (by simp) (Ev.neg (by simp) (Ev.neg (by simp) (Ev.now _)))
  · intro a l c r h hx ts hs
    rw [scanW_bad h hx] at hs
    cases hs
  · intro a l c r x h hx ih ts hs
    rw [scanW_tok' h hx] at hs
    obtain ⟨ts', hs', rfl⟩ := onto_inl hs
    obtain ⟨ws, hne, hf, hl, hb⟩ := ih ts' hs'
    obtain ⟨h1, h2⟩ := tok_len _ _ hx
    have hlen := congrArg List.length h
    rw [List.length_drop] at hlen
    refine ⟨(c :: r).take x.2.2.2 :: ws, by simp, ⟨spell_tok hx _, hf⟩, ?_, ?_⟩
    · intro w hw
      rcases List.mem_cons.1 hw with rfl | hw
      · rw [List.length_take]; omega
      · have := hl w hw
        rw [List.length_drop] at this; omega
    · intro b
      obtain ⟨w0, wr, rfl⟩ := List.exists_cons_of_ne_nil hne
      have hz : bm false (c :: r) = 0 := by rw [← h]; exact bm_rest false l
      have hg : Gap (32 :: Lib.join (w0 :: wr) [32]) := Or.inr ⟨32, _, rfl, by decide⟩
      have ht := tok_gap hg (tok_take hx (Nat.le_refl _))
      have hc : (c :: r).take x.2.2.2 = c :: r.take (x.2.2.2 - 1) := by
        obtain ⟨m, hm⟩ := Nat.exists_eq_succ_of_ne_zero (show x.2.2.2 ≠ 0 by omega)
        rw [hm]; rfl
      have hbm : bm false ((c :: r).take x.2.2.2 ++ 32 :: Lib.join (w0 :: wr) [32]) = 0 := by
        have e := bm_cut false (c :: r) x.2.2.2 (by omega)
        rw [hz] at e
        rw [bm_gap _ _ _ hg (by rw [e, hc]; simp), e]
      have hd : ((c :: r).take x.2.2.2 ++ 32 :: Lib.join (w0 :: wr) [32]).drop (bm false ((c :: r).take x.2.2.2 ++ 32 :: Lib.join (w0 :: wr) [32])) = c :: (r.take (x.2.2.2 - 1) ++ 32 :: Lib.join (w0 :: wr) [32]) := by
        rw [hbm, hc]; rfl
      rw [hc, List.cons_append] at ht
      have hsc := scanW_tok' (a := b) hd ht
      obtain ⟨us, hu, he⟩ := hb (b + x.2.2.2 + 1)
      have hdr : (c :: (r.take (x.2.2.2 - 1) ++ 32 :: Lib.join (w0 :: wr) [32])).drop x.2.2.2 = 32 :: Lib.join (w0 :: wr) [32] := by
        rw [← List.cons_append, ← hc, List.drop_append_of_le_length (by rw [List.length_take]; omega), List.drop_eq_nil_of_le (by rw [List.length_take]; omega)]; rfl
      rw [hdr, hbm, Nat.add_zero, scanW_blank _ _ _ (by decide), hu] at hsc
      refine ⟨⟨x.1, mk x.2.1, x.2.2.1, (b : Int)⟩ :: us, ?_, ?_⟩
      · rw [join_two]; exact hsc
      · rw [List.map_cons, List.singleton_append, List.map_cons, he]; rfl
theorem join_ev (ts : List S32) (ws : List (List UInt8)) (hl : ts.length = ws.length) (hlen : ts.length ≤ 8001) (hw : ∀ i (h : i < ts.length), spells ts[i] (ws[i]'(by omega))) (hJ : (Lib.join ws [32]).length ≤ 140737488355328) : ∀ d i : Nat, i + d = ts.length → Ev (fun k => lex_Join.l0 k ((ws.take i).map fun x => (⟨x.toArray⟩ : ByteArray)) ts (ts.length : Int) (i : Int)) (mk (Lib.join ws [32])) := by
  intro d
  induction d with
  | zero =>
    intro i hi
    refine Ev.step (fun k => by simp only [lex_Join.l0]; rfl) (Ev.neg (by omega) ?_)
    rw [List.take_of_length_le (by omega)]
    have ej := join_code ws [32] (by omega) hJ
    exact Ev.bind (Ev.val' ej) (Ev.now _)
  | succ d ih =>
    intro i hi
    have hlt : i < ts.length := by omega
    refine Ev.step (fun k => by simp only [lex_Join.l0]; rfl) ?_
    rw [rdT_at _ _ hlt, wr_succ hlt (by omega)]
    refine Ev.pos (by omega) (Ev.pos (by omega) (Ev.pos (by omega) (Ev.bind (hw i hlt) (Ev.pos (by simp; omega) ?_))))
    have := ih (i + 1) (by omega)
    rw [List.take_succ_eq_append_getElem (by omega), List.map_append] at this
    exact this
end Go.Proofs.YtdjcechogbcdnaaDoor.XL
namespace Go.Proofs.YtdjcechogbcdnaaDoor.XL
open Go.RowKit Go.Proofs.YtdjcechogbcdnaaDoorW.PrintWords Go.Proofs.YtdjcechogbcdnaaDoorW.PrintLast Go.Proofs.YtdjcechogbcdnaaDoorW.PrintMore
set_option linter.unusedVariables false
set_option linter.unusedSimpArgs false
/-- A change of one block. -/
structure Only (g : Nat) (w w' : World) : Prop where
  os : w'.os = w.os
  tape : w'.tape = w.tape
  output : w'.output = w.output
  size : w'.heap.size = w.heap.size
  block : ∀ k, k ≠ g → w'.heap[k]? = w.heap[k]?
theorem Only.refl (g : Nat) (w : World) : Only g w w := ⟨rfl, rfl, rfl, rfl, fun _ _ => rfl⟩
theorem Only.trans {g : Nat} {a b c : World} (h : Only g a b) (k : Only g b c) : Only g a c :=
  ⟨k.os.trans h.os, k.tape.trans h.tape, k.output.trans h.output, k.size.trans h.size, fun q hq => (k.block q hq).trans (h.block q hq)⟩
theorem Only.below {g : Nat} {B : Nat} {a w w' : World} (h : Below B a w) (k : Only g w w') (hg : B ≤ g) : Below B a w' :=
  ⟨k.os.trans h.os, k.tape.trans h.tape, k.output.trans h.output, by rw [k.size]; exact h.size, fun q hq => (k.block q (by omega)).trans (h.block q hq)⟩
theorem R_only {α : Type} {d : Kd α} {e g : Nat} {w w1 : World} {base : Nat} {ok : Nat → Prop} {v : Value} {xs : List α} (h : d.R e w base ok v xs) (k : Only g w w1) (hok : ∀ k, ok k → k ≠ g) : d.R e w1 base ok v xs :=
  Kd.R_step h (fun q hq _ => k.block q (hok q hq))
section
variable {ops : Array Oper} {rest : List Oper} {o : Oper} {a : Act} {Q : Exit → Act → World → Prop} {W : World}
/-- A number is written into a token's place in a box. -/
theorem storeAt {p : Tmp} {v : Operand} {g : Nat} {f0 x3 f2 x : Int} {f1 : ByteArray} (ho : o.op = .store 3 (.tmp p) v) (hgd : o.guard = none) (hN : o.dst = none) (hp : a.eval (.tmp p) = .pointer (some ⟨g, 3, none⟩)) (hv : a.eval v = .int .i64 x) (hh : W.heap[g]? = some (.cells #[.int .i64 f0, .string f1, .int .i64 f2, .int .i64 x3] 32 (0, 0)))
    (h : ∀ w', Only g W w' → w'.heap[g]? = some (.cells #[.int .i64 f0, .string f1, .int .i64 f2, .int .i64 x] 32 (0, 0)) → wpList Tryd.prog ops Q rest a w') : wpList Tryd.prog ops Q (o :: rest) a W := by
  have hrun := run_store_run (P := Tryd.prog) (g := g) (o := 3) 3 (.int .i64 x) [.int .i64 x] hh rfl (by kernel_rfl) (by simp) (by simp [Value.oneCell'])
  obtain ⟨s1, s2, s3, s4⟩ := setCells_same g [.int .i64 x] 3 W
  obtain ⟨cur', r1, r2, r3⟩ := setCells_row [.int .i64 x] 3 W _ hh (by simp)
  have hcur : cur' = #[.int .i64 f0, .string f1, .int .i64 f2, .int .i64 x] := by
    apply Array.toList_inj.1
    rw [r3]; rfl
  refine wpList_plain hgd fun K hK => ?_
  unfold Oper.wp execOp
  simp only [ho, hp, hv, Sem.run_bind, Sem.run_pure, Result.andThen_ok, hrun]
  show K (a.put o.dst undef) _
  rw [hN]
  exact hK a _ (h _ ⟨s1, s2, s3, s4, fun k hk => setCells_far _ 3 k hk⟩ (hcur ▸ r1))
end
end Go.Proofs.YtdjcechogbcdnaaDoor.XL
namespace Go.Proofs.YtdjcechogbcdnaaDoor.XL
open Go.RowKit Go.Proofs.YtdjcechogbcdnaaDoorW.PrintWords Go.Proofs.YtdjcechogbcdnaaDoorW.PrintLast Go.Proofs.YtdjcechogbcdnaaDoorW.PrintMore
set_option linter.unusedVariables false
set_option linter.unusedSimpArgs false
/-- The four cells of a token are written, one behind the other. -/
theorem box4 {w : World} {g : Nat} {cur : Array Value} (hh : w.heap[g]? = some (.cells cur 32 (0, 0))) (hc : cur.size = 4) (v0 v1 v2 v3 : Value) :
    ∃ W, ((((w.setCell ⟨g, 0, none⟩ v0).setCell ⟨g, 1, none⟩ v1).setCell ⟨g, 2, none⟩ v2).setCell ⟨g, 3, none⟩ v3) = W ∧ Only g w W ∧ W.heap[g]? = some (.cells #[v0, v1, v2, v3] 32 (0, 0)) := by
  obtain ⟨s1, s2, s3, s4⟩ := setCells_same g [v0, v1, v2, v3] 0 w
  obtain ⟨cur', r1, r2, r3⟩ := setCells_row [v0, v1, v2, v3] 0 w cur hh (by simp; omega)
  have hcur : cur' = #[v0, v1, v2, v3] := by
    apply Array.toList_inj.1
    rw [r3, List.take_zero, List.nil_append, List.drop_eq_nil_of_le (by rw [Array.length_toList]; simp; omega), List.append_nil]
  have e : ((((w.setCell ⟨g, 0, none⟩ v0).setCell ⟨g, 1, none⟩ v1).setCell ⟨g, 2, none⟩ v2).setCell ⟨g, 3, none⟩ v3) = w.setCells g 0 [v0, v1, v2, v3] := by simp only [World.setCells, Nat.zero_add, Nat.reduceAdd]
  rw [hcur] at r1
  refine ⟨w.setCells g 0 [v0, v1, v2, v3], e, ?_, r1⟩
  exact ⟨s1, s2, s3, s4, fun k hk => setCells_far _ 0 k hk⟩
end Go.Proofs.YtdjcechogbcdnaaDoor.XL
namespace Go.Proofs.YtdjcechogbcdnaaDoor.XL
open Go.RowKit Go.Proofs.YtdjcechogbcdnaaDoorW.PrintWords Go.Proofs.YtdjcechogbcdnaaDoorW.PrintLast Go.Proofs.YtdjcechogbcdnaaDoorW.PrintMore
attribute [local go_sem] max2_int min2_int max_two min_two max_three min_three max_four min_four   -- for this text's walks alone
set_option linter.unusedVariables false
set_option linter.unusedSimpArgs false
attribute [local go_sem high] eqA32
mutual
def switchyardlaw07_LexBack.j0 : Nat → List (S32) → Bool → Option (Bool)
  | 0, _, _ => none
  | k + 1, x3, x25 => if x25 = true then ((switchyardlaw07_awake.f k).bind fun t355 => (some t355)) else ((lex_Join.f k x3).bind fun t356 => ((lex_Scan.f k t356).bind fun bt357 => (if bt357.2.2 = 5 then (some true) else (if bt357.2.2 = 0 then (switchyardlaw07_LexBack.j1 k x3 bt357.1 ((bt357.1.length : Int) != (x3.length : Int))) else (switchyardlaw07_LexBack.j1 k x3 bt357.1 true)))))
def switchyardlaw07_LexBack.j1 : Nat → List (S32) → List (S32) → Bool → Option (Bool)
  | 0, _, _, _ => none
  | k + 1, x3, x6, x44 => if x44 = true then (none) else (switchyardlaw07_LexBack.l0 k x3 x6 (x3.length : Int) 0)
def switchyardlaw07_LexBack.l0 : Nat → List (S32) → List (S32) → Int → Int → Option (Bool)
  | 0, _, _, _, _ => none
  | k + 1, x3, x6, x46, x47 => if x47 < x46 then (if 0 ≤ x47 then (if x47 < (x3.length : Int) then (if x47 < (x6.length : Int) then (if (!(((rd_T32 x3 x47).f0) == ((rd_T32 x6 x47).f0)) || (!((((rd_T32 x3 x47).f1).toList) == (((rd_T32 x6 x47).f1).toList)) || (!(((rd_T32 x3 x47).f2) == ((rd_T32 x6 x47).f2))))) = true then (none) else (switchyardlaw07_LexBack.l0 k x3 x6 x46 (wrap64 (x47 + 1)))) else (none)) else (none)) else (none)) else (some true)
end
def switchyardlaw07_LexBack.f (k : Nat) (a0 : ByteArray) : Option (Bool) := (switchyardlaw07_awake.f k).bind fun t348 => (if t348 = true then ((lex_Scan.f k a0).bind fun bt349 => ((switchyardlaw07_awake.f k).bind fun t354 => (if t354 = true then (switchyardlaw07_LexBack.j0 k bt349.1 (bt349.2.2 != 0)) else (switchyardlaw07_LexBack.j0 k bt349.1 true)))) else (none))
def switchyardlaw07_LexBack.T14 : Bool × List (List Nat × List Nat) := (true, [([], []), ([], []), ([0, 1], [0, 1]), ([2], [2]), ([], []), ([], []), ([4, 5], [4, 5]), ([6], [6]), ([], []), ([], []), ([8, 3, 0, 1, 2, 3, 8, 9], [3, 8]), ([9, 7, 10, 0, 1, 2, 3, 4, 5, 6, 7, 8, 9, 10], [7, 9])])
def switchyardlaw07_LexBack.B14 : List Nat := [0, 0, 3, 7, 0, 0, 48, 112, 0, 0, 783, 2047]
theorem switchyardlaw07_LexBack.tab14 : rtab .any (opsOf Tryd.f6 14) = switchyardlaw07_LexBack.T14 := by kernel_rfl
theorem switchyardlaw07_LexBack.bits14 : waitsOk switchyardlaw07_LexBack.T14.2 switchyardlaw07_LexBack.B14 = true := by kernel_rfl
set_option maxHeartbeats 4000000 in
set_option maxRecDepth 100000 in
theorem switchyardlaw07_LexBack.calls (k : Nat) (a0 : ByteArray) (r : Bool) (w : World) (h : switchyardlaw07_LexBack.f k a0 = some r) (hT : Tabs w) :
    Calls Tryd.prog 6 #[.string a0] w fun e w' => e = .returned (.bool r) ∧ Below w.heap.size w w' := by
  have HT := Aside0.mk hT
  clear hT
  have hu32 := Tryd.underlying32
  have HB := Aside0.mk (Below.refl w.heap.size w)
  have H : ((switchyardlaw07_awake.f k).bind fun t348 => (if t348 = true then ((lex_Scan.f k a0).bind fun bt349 => ((switchyardlaw07_awake.f k).bind fun t354 => (if t354 = true then (switchyardlaw07_LexBack.j0 k bt349.1 (bt349.2.2 != 0)) else (switchyardlaw07_LexBack.j0 k bt349.1 true)))) else (none))) = some r := h
  clear h
  replace H := Option.bind_eq_some_iff.mp H
  obtain ⟨t348, A20, H⟩ := H
  replace H : (if t348 = true then ((lex_Scan.f k a0).bind fun bt349 => ((switchyardlaw07_awake.f k).bind fun t354 => (if t354 = true then (switchyardlaw07_LexBack.j0 k bt349.1 (bt349.2.2 != 0)) else (switchyardlaw07_LexBack.j0 k bt349.1 true)))) else (none)) = some r := H
  have A2 := Aside0.mk A20
  clear A20
  by_cases c3 : t348 = true
  · subst c3
    have H1 : ((lex_Scan.f k a0).bind fun bt349 => ((switchyardlaw07_awake.f k).bind fun t354 => (if t354 = true then (switchyardlaw07_LexBack.j0 k bt349.1 (bt349.2.2 != 0)) else (switchyardlaw07_LexBack.j0 k bt349.1 true)))) = some r := by rw [if_pos rfl] at H; exact H
    clear H
    have H := H1
    clear H1
    replace H := Option.bind_eq_some_iff.mp H
    obtain ⟨⟨t349, t350, t351⟩, A40, H⟩ := H
    replace H : ((switchyardlaw07_awake.f k).bind fun t354 => (if t354 = true then (switchyardlaw07_LexBack.j0 k t349 (t351 != 0)) else (switchyardlaw07_LexBack.j0 k t349 true))) = some r := H
    have A4 := Aside0.mk A40
    clear A40
    have HC5 := Aside0.mk H
    clear H
    go_enter Tryd.func6, Tryd.ntmps6
    go_upto_region 4 with (first | ((with_reducible refine gate_callee (f := 7) rfl ?_); refine goesL_ (some 12) rfl rfl Tryd.func7 (by kernel_rfl) rfl #[] rfl (by (try simp only [List.map_toArray, List.map_cons, List.map_nil]); first | done | rfl | (simp only [List.length_drop, List.length_take]; rfl)) ?_; (with_reducible refine (switchyardlaw07_awake.calls k  true _ A2.out (Tabs.below HT.out (by repeat (first | (with_reducible first | exact HB.out | apply below_alloc | apply pw_below_drewN | apply below_drew1) | exact HB.out)))).mono ?_); rintro e w6 ⟨rfl, hb⟩; refine ⟨_, rfl, ?_⟩; have n0_ := Aside0.mk (below_step (by repeat (first | (with_reducible first | exact HB.out | apply below_alloc | apply pw_below_drewN | apply below_drew1) | exact HB.out)) hb); clear HB; have HB := n0_; clear n0_; (try clear hb); (try clear hb2); (try clear hk); (try clear hi)) | ((with_reducible refine gate_callee (f := 8) rfl ?_); refine goesL_ (some 16) rfl rfl Tryd.func8 (by kernel_rfl) rfl #[.string a0] rfl (by (try simp only [List.map_toArray, List.map_cons, List.map_nil]); first | done | rfl | (simp only [List.length_drop, List.length_take]; rfl)) ?_; (with_reducible refine (lex_Scan.calls k a0 t349 t350 t351 _ A4.out (Tabs.below HT.out (by repeat (first | (with_reducible first | exact HB.out | apply below_alloc | apply pw_below_drewN | apply below_drew1) | exact HB.out)))).mono ?_); rintro e w7 ⟨v352, rfl, ho0, hb⟩; refine ⟨_, rfl, ?_⟩; have n0_ := Aside0.mk (Kd.R_lower ho0 (below_size (by repeat (first | (with_reducible first | exact HB.out | apply below_alloc | apply pw_below_drewN | apply below_drew1) | exact HB.out)))); have n1_ := Aside0.mk (below_step (by repeat (first | (with_reducible first | exact HB.out | apply below_alloc | apply pw_below_drewN | apply below_drew1) | exact HB.out)) hb); clear HB; have HO353 := n0_; have HB := n1_; clear n0_ n1_; (try clear hb); (try clear hb2); (try clear hk); (try clear hi); (try clear ho0)))
    (try simp only [Act.put, List.setIfInBounds_toArray, List.set_cons_zero, List.set_cons_succ])
    go_cut [25] (fun v25 wc => ∃ (kq : Nat) (x25_4 : Bool), v25 = .bool x25_4 ∧ Aside0 (switchyardlaw07_LexBack.j0 kq t349 x25_4 = some r) ∧ Aside0 (kq ≤ k) ∧ Aside0 (Kd.R k32 32 wc w.heap.size (fun _ => True) v352 t349) ∧ Aside0 (Below w.heap.size w wc))
    case first =>
      have H := HC5.out
      clear HC5
      replace H := Option.bind_eq_some_iff.mp H
      obtain ⟨t354, A80, H⟩ := H
      replace H : (if t354 = true then (switchyardlaw07_LexBack.j0 k t349 (t351 != 0)) else (switchyardlaw07_LexBack.j0 k t349 true)) = some r := H
      have A8 := Aside0.mk A80
      clear A80
      by_cases c9 : t354 = true
      · subst c9
        have H1 : (switchyardlaw07_LexBack.j0 k t349 (t351 != 0)) = some r := by rw [if_pos rfl] at H; exact H
        clear H
        have H := H1
        clear H1
        have H' := Aside0.mk H
        clear H
        go_wp2_with (first | ((with_reducible refine gate_callee (f := 7) rfl ?_); refine goesL_ (some 20) rfl rfl Tryd.func7 (by kernel_rfl) rfl #[] rfl (by (try simp only [List.map_toArray, List.map_cons, List.map_nil]); first | done | rfl | (simp only [List.length_drop, List.length_take]; rfl)) ?_; (with_reducible refine (switchyardlaw07_awake.calls k  true _ A8.out (Tabs.below HT.out (by repeat (first | (with_reducible first | exact HB.out | apply below_alloc | apply pw_below_drewN | apply below_drew1) | exact HB.out)))).mono ?_); rintro e w10 ⟨rfl, hb⟩; refine ⟨_, rfl, ?_⟩; have n0_ := Aside0.mk (Kd.R_below (by (with_reducible repeat (first | apply Kd.R_alloc | apply Kd.R_drewN | apply Kd.R_drew)); exact HO353.out) hb); have n1_ := Aside0.mk (below_step (by repeat (first | (with_reducible first | exact HB.out | apply below_alloc | apply pw_below_drewN | apply below_drew1) | exact HB.out)) hb); clear HO353; clear HB; have HO353 := n0_; have HB := n1_; clear n0_ n1_; (try clear hb); (try clear hb2); (try clear hk); (try clear hi)))
        go_meet
        case rel => exact ⟨_, ((t351 != 0)), (by first | rfl | (simp; done) | (simp [*]; done)), H', ⟨by first | omega | exact Nat.le_refl _⟩, ⟨by (with_reducible repeat (first | apply Kd.R_alloc | apply Kd.R_drewN | apply Kd.R_drew)); exact HO353.out⟩, ⟨by repeat (first | (with_reducible first | exact HB.out | apply below_alloc | apply pw_below_drewN | apply below_drew1) | exact HB.out)⟩⟩
      · replace c9 := Bool.eq_false_iff.mpr c9
        subst c9
        have H1 : (switchyardlaw07_LexBack.j0 k t349 true) = some r := by rw [if_neg (show ¬ (false = true) by decide)] at H; exact H
        clear H
        have H := H1
        clear H1
        have H' := Aside0.mk H
        clear H
        go_wp2_with (first | ((with_reducible refine gate_callee (f := 7) rfl ?_); refine goesL_ (some 20) rfl rfl Tryd.func7 (by kernel_rfl) rfl #[] rfl (by (try simp only [List.map_toArray, List.map_cons, List.map_nil]); first | done | rfl | (simp only [List.length_drop, List.length_take]; rfl)) ?_; (with_reducible refine (switchyardlaw07_awake.calls k  false _ A8.out (Tabs.below HT.out (by repeat (first | (with_reducible first | exact HB.out | apply below_alloc | apply pw_below_drewN | apply below_drew1) | exact HB.out)))).mono ?_); rintro e w11 ⟨rfl, hb⟩; refine ⟨_, rfl, ?_⟩; have n0_ := Aside0.mk (Kd.R_below (by (with_reducible repeat (first | apply Kd.R_alloc | apply Kd.R_drewN | apply Kd.R_drew)); exact HO353.out) hb); have n1_ := Aside0.mk (below_step (by repeat (first | (with_reducible first | exact HB.out | apply below_alloc | apply pw_below_drewN | apply below_drew1) | exact HB.out)) hb); clear HO353; clear HB; have HO353 := n0_; have HB := n1_; clear n0_ n1_; (try clear hb); (try clear hb2); (try clear hk); (try clear hi)))
        go_meet
        case rel => exact ⟨_, (true), (by first | rfl | (simp; done) | (simp [*]; done)), H', ⟨by first | omega | exact Nat.le_refl _⟩, ⟨by (with_reducible repeat (first | apply Kd.R_alloc | apply Kd.R_drewN | apply Kd.R_drew)); exact HO353.out⟩, ⟨by repeat (first | (with_reducible first | exact HB.out | apply below_alloc | apply pw_below_drewN | apply below_drew1) | exact HB.out)⟩⟩
    case rest =>
      clear HC5
      try clear p2
      try clear c3
      try clear c6
      try clear c7
      try clear c8
      try clear c9
      obtain ⟨kq, x25_4, rfl, HA, HJ4, HO_3, HB⟩ := hcut
      cases kq with
      | zero => exact absurd HA.out (by simp [switchyardlaw07_LexBack.j0])
      | succ kj4 =>
        have H := HA.out
        clear HA
        simp only [switchyardlaw07_LexBack.j0] at H
        by_cases c12 : x25_4 = true
        · subst c12
          have H1 : ((switchyardlaw07_awake.f kj4).bind fun t355 => (some t355)) = some r := by rw [if_pos rfl] at H; exact H
          clear H
          have H := H1
          clear H1
          replace H := Option.bind_eq_some_iff.mp H
          obtain ⟨t355, A130, H⟩ := H
          replace H : (some t355) = some r := H
          have A13 := Aside0.mk A130
          clear A130
          obtain rfl := Option.some.inj H
          go_wp2_with (first | ((with_reducible refine gate_callee (f := 7) rfl ?_); refine goesL_ (some 26) rfl rfl Tryd.func7 (by kernel_rfl) rfl #[] rfl (by (try simp only [List.map_toArray, List.map_cons, List.map_nil]); first | done | rfl | (simp only [List.length_drop, List.length_take]; rfl)) ?_; (with_reducible refine (switchyardlaw07_awake.calls kj4  t355 _ A13.out (Tabs.below HT.out (by repeat (first | (with_reducible first | exact HB.out | apply below_alloc | apply pw_below_drewN | apply below_drew1) | exact HB.out)))).mono ?_); rintro e w14 ⟨rfl, hb⟩; refine ⟨_, rfl, ?_⟩; have n0_ := Aside0.mk (Kd.R_below (by (with_reducible repeat (first | apply Kd.R_alloc | apply Kd.R_drewN | apply Kd.R_drew)); exact HO_3.out) hb); have n1_ := Aside0.mk (below_step (by repeat (first | (with_reducible first | exact HB.out | apply below_alloc | apply pw_below_drewN | apply below_drew1) | exact HB.out)) hb); clear HO_3; clear HB; have HO_3 := n0_; have HB := n1_; clear n0_ n1_; (try clear hb); (try clear hb2); (try clear hk); (try clear hi)))
          go_ret
          exact ⟨by first | rfl | (simp [errW_none, errW_some] <;> rfl) | (simp [*, errW_none, errW_some] <;> rfl), by repeat (first | (with_reducible first | exact HB.out | apply below_alloc | apply pw_below_drewN | apply below_drew1) | exact HB.out)⟩
        · replace c12 := Bool.eq_false_iff.mpr c12
          subst c12
          have H1 : ((lex_Join.f kj4 t349).bind fun t356 => ((lex_Scan.f kj4 t356).bind fun bt357 => (if bt357.2.2 = 5 then (some true) else (if bt357.2.2 = 0 then (switchyardlaw07_LexBack.j1 kj4 t349 bt357.1 ((bt357.1.length : Int) != (t349.length : Int))) else (switchyardlaw07_LexBack.j1 kj4 t349 bt357.1 true))))) = some r := by rw [if_neg (show ¬ (false = true) by decide)] at H; exact H
          clear H
          have H := H1
          clear H1
          replace H := Option.bind_eq_some_iff.mp H
          obtain ⟨t356, A150, H⟩ := H
          replace H : ((lex_Scan.f kj4 t356).bind fun bt357 => (if bt357.2.2 = 5 then (some true) else (if bt357.2.2 = 0 then (switchyardlaw07_LexBack.j1 kj4 t349 bt357.1 ((bt357.1.length : Int) != (t349.length : Int))) else (switchyardlaw07_LexBack.j1 kj4 t349 bt357.1 true)))) = some r := H
          have A15 := Aside0.mk A150
          clear A150
          replace H := Option.bind_eq_some_iff.mp H
          obtain ⟨⟨t357, t358, t359⟩, A160, H⟩ := H
          replace H : (if t359 = 5 then (some true) else (if t359 = 0 then (switchyardlaw07_LexBack.j1 kj4 t349 t357 ((t357.length : Int) != (t349.length : Int))) else (switchyardlaw07_LexBack.j1 kj4 t349 t357 true))) = some r := H
          have A16 := Aside0.mk A160
          clear A160
          by_cases c17 : t359 = 5
          · rw [if_pos c17] at H
            have c17b0 : (t359 == 5) = true := beq_iff_eq.mpr c17
            have c17b1 : (t359 != 5) = false := bne_eq_false_iff_eq.mpr c17
            clear c17
            obtain rfl := Option.some.inj H
            obtain ⟨Ao18, co18, eo18⟩ := Kd.R_slice HO_3.out
            subst eo18
            go_wp2_with (first | ((with_reducible refine gate_callee (f := 11) rfl ?_); refine goesL_ (some 29) rfl rfl Tryd.func11 (by kernel_rfl) rfl #[.slice Ao18 t349.length co18] rfl (by (try simp only [List.map_toArray, List.map_cons, List.map_nil]); first | done | rfl | (simp only [List.length_drop, List.length_take]; rfl)) ?_; (with_reducible refine (lex_Join.calls kj4 _ _ t349 t356 _ ?side1 ?side2 A15.out (Tabs.below HT.out (by repeat (first | (with_reducible first | exact HB.out | apply below_alloc | apply pw_below_drewN | apply below_drew1) | exact HB.out)))).mono ?_); (case side1 => repeat (first | exact (Kd.R_reads' HO_3.out).2.2 | (with_reducible refine Kd.C_alloc ?_ _) | (with_reducible refine Kd.C_drewN ?_ _) | (with_reducible refine Kd.C_drew ?_))); (case side2 => exact (Kd.R_reads' HO_3.out).2.1); rintro e w19 ⟨rfl, hb⟩; refine ⟨_, rfl, ?_⟩; have n0_ := Aside0.mk (Kd.R_below (by (with_reducible repeat (first | apply Kd.R_alloc | apply Kd.R_drewN | apply Kd.R_drew)); exact HO_3.out) hb); have n1_ := Aside0.mk (below_step (by repeat (first | (with_reducible first | exact HB.out | apply below_alloc | apply pw_below_drewN | apply below_drew1) | exact HB.out)) hb); clear HO_3; clear HB; have HO_3 := n0_; have HB := n1_; clear n0_ n1_; (try clear hb); (try clear hb2); (try clear hk); (try clear hi)) | ((with_reducible refine gate_callee (f := 8) rfl ?_); refine goesL_ (some 30) rfl rfl Tryd.func8 (by kernel_rfl) rfl #[.string t356] rfl (by (try simp only [List.map_toArray, List.map_cons, List.map_nil]); first | done | rfl | (simp only [List.length_drop, List.length_take]; rfl)) ?_; (with_reducible refine (lex_Scan.calls kj4 t356 t357 t358 t359 _ A16.out (Tabs.below HT.out (by repeat (first | (with_reducible first | exact HB.out | apply below_alloc | apply pw_below_drewN | apply below_drew1) | exact HB.out)))).mono ?_); rintro e w20 ⟨v360, rfl, ho0, hb⟩; refine ⟨_, rfl, ?_⟩; have n0_ := Aside0.mk (Kd.R_elder' (by (with_reducible repeat (first | apply Kd.R_alloc | apply Kd.R_drewN | apply Kd.R_drew)); exact HO_3.out) (Kd.R_base ho0) hb); have n1_ := Aside0.mk (Kd.R_lower (Kd.R_new' ho0 (Kd.R_lt (by (with_reducible repeat (first | apply Kd.R_alloc | apply Kd.R_drewN | apply Kd.R_drew)); exact HO_3.out))) (below_size (by repeat (first | (with_reducible first | exact HB.out | apply below_alloc | apply pw_below_drewN | apply below_drew1) | exact HB.out)))); have n2_ := Aside0.mk (below_step (by repeat (first | (with_reducible first | exact HB.out | apply below_alloc | apply pw_below_drewN | apply below_drew1) | exact HB.out)) hb); clear HO_3; clear HB; have HO_3 := n0_; have HO361 := n1_; have HB := n2_; clear n0_ n1_ n2_; (try clear hb); (try clear hb2); (try clear hk); (try clear hi); (try clear ho0)))
            go_ret
            exact ⟨by first | rfl | (simp [errW_none, errW_some] <;> rfl) | (simp [*, errW_none, errW_some] <;> rfl), by repeat (first | (with_reducible first | exact HB.out | apply below_alloc | apply pw_below_drewN | apply below_drew1) | exact HB.out)⟩
          · rw [if_neg c17] at H
            have c17b0 : (t359 == 5) = false := beq_eq_false_iff_ne.mpr c17
            have c17b1 : (t359 != 5) = true := bne_iff_ne.mpr c17
            have HC21 := Aside0.mk H
            clear H
            obtain ⟨Ao22, co22, eo22⟩ := Kd.R_slice HO_3.out
            subst eo22
            go_upto_region 9 with (first | ((with_reducible refine gate_callee (f := 11) rfl ?_); refine goesL_ (some 29) rfl rfl Tryd.func11 (by kernel_rfl) rfl #[.slice Ao22 t349.length co22] rfl (by (try simp only [List.map_toArray, List.map_cons, List.map_nil]); first | done | rfl | (simp only [List.length_drop, List.length_take]; rfl)) ?_; (with_reducible refine (lex_Join.calls kj4 _ _ t349 t356 _ ?side1 ?side2 A15.out (Tabs.below HT.out (by repeat (first | (with_reducible first | exact HB.out | apply below_alloc | apply pw_below_drewN | apply below_drew1) | exact HB.out)))).mono ?_); (case side1 => repeat (first | exact (Kd.R_reads' HO_3.out).2.2 | (with_reducible refine Kd.C_alloc ?_ _) | (with_reducible refine Kd.C_drewN ?_ _) | (with_reducible refine Kd.C_drew ?_))); (case side2 => exact (Kd.R_reads' HO_3.out).2.1); rintro e w23 ⟨rfl, hb⟩; refine ⟨_, rfl, ?_⟩; have n0_ := Aside0.mk (Kd.R_below (by (with_reducible repeat (first | apply Kd.R_alloc | apply Kd.R_drewN | apply Kd.R_drew)); exact HO_3.out) hb); have n1_ := Aside0.mk (below_step (by repeat (first | (with_reducible first | exact HB.out | apply below_alloc | apply pw_below_drewN | apply below_drew1) | exact HB.out)) hb); clear HO_3; clear HB; have HO_3 := n0_; have HB := n1_; clear n0_ n1_; (try clear hb); (try clear hb2); (try clear hk); (try clear hi)) | ((with_reducible refine gate_callee (f := 8) rfl ?_); refine goesL_ (some 30) rfl rfl Tryd.func8 (by kernel_rfl) rfl #[.string t356] rfl (by (try simp only [List.map_toArray, List.map_cons, List.map_nil]); first | done | rfl | (simp only [List.length_drop, List.length_take]; rfl)) ?_; (with_reducible refine (lex_Scan.calls kj4 t356 t357 t358 t359 _ A16.out (Tabs.below HT.out (by repeat (first | (with_reducible first | exact HB.out | apply below_alloc | apply pw_below_drewN | apply below_drew1) | exact HB.out)))).mono ?_); rintro e w24 ⟨v360, rfl, ho0, hb⟩; refine ⟨_, rfl, ?_⟩; have n0_ := Aside0.mk (Kd.R_elder' (by (with_reducible repeat (first | apply Kd.R_alloc | apply Kd.R_drewN | apply Kd.R_drew)); exact HO_3.out) (Kd.R_base ho0) hb); have n1_ := Aside0.mk (Kd.R_lower (Kd.R_new' ho0 (Kd.R_lt (by (with_reducible repeat (first | apply Kd.R_alloc | apply Kd.R_drewN | apply Kd.R_drew)); exact HO_3.out))) (below_size (by repeat (first | (with_reducible first | exact HB.out | apply below_alloc | apply pw_below_drewN | apply below_drew1) | exact HB.out)))); have n2_ := Aside0.mk (below_step (by repeat (first | (with_reducible first | exact HB.out | apply below_alloc | apply pw_below_drewN | apply below_drew1) | exact HB.out)) hb); clear HO_3; clear HB; have HO_3 := n0_; have HO361 := n1_; have HB := n2_; clear n0_ n1_ n2_; (try clear hb); (try clear hb2); (try clear hk); (try clear hi); (try clear ho0)))
            (try simp only [Act.put, List.setIfInBounds_toArray, List.set_cons_zero, List.set_cons_succ])
            go_cut [44] (fun v44 wc => ∃ (kq : Nat) (x44_20 : Bool), v44 = .bool x44_20 ∧ Aside0 (switchyardlaw07_LexBack.j1 kq t349 t357 x44_20 = some r) ∧ Aside0 (kq ≤ kj4) ∧ Aside0 (Kd.R k32 32 wc w.heap.size (fun k_ => some k_ ≠ (v360 : Value).ownBlock) (.slice Ao22 t349.length co22) t349) ∧ Aside0 (Kd.R k32 32 wc w.heap.size (fun k_ => some k_ ≠ ((.slice Ao22 t349.length co22) : Value).ownBlock) v360 t357) ∧ Aside0 (Below w.heap.size w wc))
            case first =>
              have H := HC21.out
              clear HC21
              by_cases c25 : t359 = 0
              · rw [if_pos c25] at H
                have c25b0 : (t359 == 0) = true := beq_iff_eq.mpr c25
                have c25b1 : (t359 != 0) = false := bne_eq_false_iff_eq.mpr c25
                clear c25
                (first | rw [c25b0] | (simp only [i64_w, i32_w]; rw [c25b0]) | skip)
                have H' := Aside0.mk H
                clear H
                obtain ⟨Ao26, co26, eo26⟩ := Kd.R_slice HO361.out
                subst eo26
                go_wp2
                go_meet
                case rel => exact ⟨_, (((t357.length : Int) != (t349.length : Int))), (by first | rfl | (simp; done) | (simp [*]; done)), H', ⟨by have := HJ4.out; first | omega | exact Nat.le_refl _⟩, ⟨by (with_reducible repeat (first | apply Kd.R_alloc | apply Kd.R_drewN | apply Kd.R_drew)); exact Kd.R_mono HO_3.out (fun _ hk => hk.2)⟩, ⟨by (with_reducible repeat (first | apply Kd.R_alloc | apply Kd.R_drewN | apply Kd.R_drew)); exact Kd.R_mono HO361.out (fun _ hk => hk.2)⟩, ⟨by repeat (first | (with_reducible first | exact HB.out | apply below_alloc | apply pw_below_drewN | apply below_drew1) | exact HB.out)⟩⟩
              · rw [if_neg c25] at H
                have c25b0 : (t359 == 0) = false := beq_eq_false_iff_ne.mpr c25
                have c25b1 : (t359 != 0) = true := bne_iff_ne.mpr c25
                (first | rw [c25b0] | (simp only [i64_w, i32_w]; rw [c25b0]) | skip)
                have H' := Aside0.mk H
                clear H
                go_wp2
                go_meet
                case rel => exact ⟨_, (true), (by first | rfl | (simp; done) | (simp [*]; done)), H', ⟨by have := HJ4.out; first | omega | exact Nat.le_refl _⟩, ⟨by (with_reducible repeat (first | apply Kd.R_alloc | apply Kd.R_drewN | apply Kd.R_drew)); exact Kd.R_mono HO_3.out (fun _ hk => hk.2)⟩, ⟨by (with_reducible repeat (first | apply Kd.R_alloc | apply Kd.R_drewN | apply Kd.R_drew)); exact Kd.R_mono HO361.out (fun _ hk => hk.2)⟩, ⟨by repeat (first | (with_reducible first | exact HB.out | apply below_alloc | apply pw_below_drewN | apply below_drew1) | exact HB.out)⟩⟩
            case rest =>
              clear HC21
              try clear c1
              try clear c2
              try clear p2
              try clear c3
              try clear c6
              try clear c7
              try clear c8
              try clear c9
              try clear c11
              try clear c12
              try clear c17
              try clear c17b0
              try clear c17b1
              try clear c25
              try clear c25b0
              try clear c25b1
              try clear p2
              obtain ⟨kq, x44_20, rfl, HA, HJ20, HO_3, HO_6, HB⟩ := hcut
              cases kq with
              | zero => exact absurd HA.out (by simp [switchyardlaw07_LexBack.j1])
              | succ kj20 =>
                have H := HA.out
                clear HA
                simp only [switchyardlaw07_LexBack.j1] at H
                by_cases c27 : x44_20 = true
                · subst c27
                  have H1 : (none) = some r := by rw [if_pos rfl] at H; exact H
                  clear H
                  have H := H1
                  clear H1
                  exact absurd H (by simp)
                · replace c27 := Bool.eq_false_iff.mpr c27
                  subst c27
                  have H1 : (switchyardlaw07_LexBack.l0 kj20 t349 t357 (t349.length : Int) 0) = some r := by rw [if_neg (show ¬ (false = true) by decide)] at H; exact H
                  clear H
                  have H := H1
                  clear H1
                  have H' := Aside0.mk H
                  clear H
                  go_wp2
                  go_loopg [47] kj20 (fun kq v47 w' => ∃ (x47_3 : Int), v47 = .int .i64 x47_3 ∧ Aside0 (switchyardlaw07_LexBack.l0 kq t349 t357 (t349.length : Int) x47_3 = some r) ∧ Aside0 (kq ≤ kj20) ∧ Aside0 (Kd.R k32 32 w' w.heap.size (fun k_ => some k_ ≠ (v360 : Value).ownBlock) (.slice Ao22 t349.length co22) t349) ∧ Aside0 (Kd.R k32 32 w' w.heap.size (fun k_ => some k_ ≠ ((.slice Ao22 t349.length co22) : Value).ownBlock) v360 t357) ∧ Aside0 (Below w.heap.size w w'))
                  case atStart => exact ⟨(0), (by first | rfl | (simp; done) | (simp [*]; done)), H', ⟨Nat.le_refl _⟩, ⟨by (with_reducible repeat (first | apply Kd.R_alloc | apply Kd.R_drewN | apply Kd.R_drew)); exact HO_3.out⟩, ⟨by (with_reducible repeat (first | apply Kd.R_alloc | apply Kd.R_drewN | apply Kd.R_drew)); exact HO_6.out⟩, ⟨by repeat (first | (with_reducible first | exact HB.out | apply below_alloc | apply pw_below_drewN | apply below_drew1) | exact HB.out)⟩⟩
                  case round =>
                    clear H'
                    try clear c1
                    try clear c2
                    try clear p2
                    try clear c3
                    try clear c6
                    try clear c7
                    try clear c8
                    try clear c9
                    try clear c11
                    try clear c12
                    try clear c17
                    try clear c17b0
                    try clear c17b1
                    try clear c25
                    try clear c25b0
                    try clear c25b1
                    try clear c27
                    try clear p2
                    obtain ⟨x47_3, rfl, HA, HK3, HO_3, HO_6, HB⟩ := hrel
                    cases gk with
                    | zero => exact absurd HA.out (by simp [switchyardlaw07_LexBack.l0])
                    | succ k3 =>
                      have H := HA.out
                      clear HA
                      simp only [switchyardlaw07_LexBack.l0] at H
                      by_cases c28 : x47_3 < (t349.length : Int)
                      · rw [if_pos c28] at H
                        have c28b0 : decide (x47_3 < (t349.length : Int)) = true := decide_eq_true c28
                        clear c28
                        by_cases c29 : 0 ≤ x47_3
                        · rw [if_pos c29] at H
                          have c29b0 : decide (0 ≤ x47_3) = true := decide_eq_true c29
                          clear c29
                          by_cases c30 : x47_3 < (t349.length : Int)
                          · rw [if_pos c30] at H
                            have c30b0 : decide (x47_3 < (t349.length : Int)) = true := decide_eq_true c30
                            clear c30
                            by_cases c31 : x47_3 < (t357.length : Int)
                            · rw [if_pos c31] at H
                              have c31b0 : decide (x47_3 < (t357.length : Int)) = true := decide_eq_true c31
                              clear c31
                              by_cases c32 : (!(((rd_T32 t349 x47_3).f0) == ((rd_T32 t357 x47_3).f0)) || (!((((rd_T32 t349 x47_3).f1).toList) == (((rd_T32 t357 x47_3).f1).toList)) || (!(((rd_T32 t349 x47_3).f2) == ((rd_T32 t357 x47_3).f2))))) = true
                              · rw [if_pos c32] at H
                                exact absurd H (by simp)
                              · rw [if_neg c32] at H
                                have c32b0 : (!(((rd_T32 t349 x47_3).f0) == ((rd_T32 t357 x47_3).f0)) || (!((((rd_T32 t349 x47_3).f1).toList) == (((rd_T32 t357 x47_3).f1).toList)) || (!(((rd_T32 t349 x47_3).f2) == ((rd_T32 t357 x47_3).f2))))) = false := by simpa using c32
                                clear c32
                                have H' := Aside0.mk H
                                clear H
                                try go_wp2
                                have n0_ := Aside0.mk (Kd.R_drew HO_3.out)
                                have n1_ := Aside0.mk (Kd.R_drew HO_6.out)
                                have n2_ := Aside0.mk (below_drew1 HB.out)
                                clear HO_3
                                clear HO_6
                                clear HB
                                have HO_3 := n0_
                                have HO_6 := n1_
                                have HB := n2_
                                clear n0_ n1_ n2_
                                have p362 : 0 ≤ (x47_3 : Int) := of_decide_eq_true (by first | (with_reducible assumption) | assumption)
                                have q362 : x47_3 < (t349.length : Int) := of_decide_eq_true (by first | (with_reducible assumption) | assumption)
                                obtain ⟨ad362, e362, hx362_0, hx362_1, hx362_2, hx362_3⟩ := at_T32 (Kd.R_reads' HO_3.out).2.2 x47_3 p362 q362
                                cases e362
                                replace p362 := eq_true p362
                                replace q362 := eq_true q362
                                obtain ⟨Ao34, co34, eo34⟩ := Kd.R_slice HO_6.out
                                (first | subst eo34 | (injection eo34 with f1_ f2_ f3_; have f4_ := f1_.symm; have f5_ := f3_.symm; clear f1_ f2_ f3_; subst f4_; subst f5_))
                                have p363 : 0 ≤ (x47_3 : Int) := of_decide_eq_true (by first | (with_reducible assumption) | assumption)
                                have q363 : x47_3 < (t357.length : Int) := of_decide_eq_true (by first | (with_reducible assumption) | assumption)
                                obtain ⟨ad363, e363, hx363_0, hx363_1, hx363_2, hx363_3⟩ := at_T32 (Kd.R_reads' HO_6.out).2.2 x47_3 p363 q363
                                cases e363
                                replace p363 := eq_true p363
                                replace q363 := eq_true q363
                                refine start_ (n := 12) (S := fun w' => w'.cell? (ad362.add ((x47_3).toNat * 4)) = some (.int .i64 ((rd_T32 t349 x47_3).f0)) ∧ w'.cell? ⟨(ad362.add ((x47_3).toNat * 4)).block, (ad362.add ((x47_3).toNat * 4)).off + 1, none⟩ = some (.string ((rd_T32 t349 x47_3).f1)) ∧ w'.cell? ⟨(ad362.add ((x47_3).toNat * 4)).block, (ad362.add ((x47_3).toNat * 4)).off + 2, none⟩ = some (.int .i64 ((rd_T32 t349 x47_3).f2)) ∧ w'.cell? ⟨(ad362.add ((x47_3).toNat * 4)).block, (ad362.add ((x47_3).toNat * 4)).off + 3, none⟩ = some (.int .i64 ((rd_T32 t349 x47_3).f3)) ∧ w'.cell? (ad363.add ((x47_3).toNat * 4)) = some (.int .i64 ((rd_T32 t357 x47_3).f0)) ∧ w'.cell? ⟨(ad363.add ((x47_3).toNat * 4)).block, (ad363.add ((x47_3).toNat * 4)).off + 1, none⟩ = some (.string ((rd_T32 t357 x47_3).f1)) ∧ w'.cell? ⟨(ad363.add ((x47_3).toNat * 4)).block, (ad363.add ((x47_3).toNat * 4)).off + 2, none⟩ = some (.int .i64 ((rd_T32 t357 x47_3).f2)) ∧ w'.cell? ⟨(ad363.add ((x47_3).toNat * 4)).block, (ad363.add ((x47_3).toNat * 4)).off + 3, none⟩ = some (.int .i64 ((rd_T32 t357 x47_3).f3))) (ds := []) #[false, false, false, false, false, false, false, false, false, false, false, false] (by kernel_rfl) rfl rfl ⟨hx362_0, hx362_1, hx362_2, hx362_3, hx363_0, hx363_1, hx363_2, hx363_3⟩ (fun hHeld => ?_); refine with_tabW switchyardlaw07_LexBack.tab14 switchyardlaw07_LexBack.bits14 (fun HT_ HW_ => ?_)
                                generalize wr.drew = w33 at HO_3 HO_6 HB hx362_0 hx362_1 hx362_2 hx362_3 hx363_0 hx363_1 hx363_2 hx363_3 hHeld ⊢
                                refine pure_ (i := 0) (N := some 50) (v := ?_) (a' := ?_) #[true, false, false, false, false, false, false, false, false, false, false, false] rfl rfl (any_of HT_.out (by kernel_rfl)) (fun _ _ _ h => h) (Or.inl ⟨by rfl, ?_⟩) ?_ ?_
                                rotate_left
                                · intro w'
                                  go_simp
                                  with_reducible rfl
                                rotate_left
                                · simp only [Act.put, List.setIfInBounds_toArray, List.set_cons_zero, List.set_cons_succ, i64_w, i32_w]
                                  rfl
                                refine pure_ (i := 1) (N := some 51) (v := ?_) (a' := ?_) #[true, true, false, false, false, false, false, false, false, false, false, false] rfl rfl (any_of HT_.out (by kernel_rfl)) (fun _ _ _ h => h) (Or.inl ⟨by rfl, ?_⟩) ?_ ?_
                                rotate_left
                                · intro w'
                                  go_simp
                                  with_reducible rfl
                                rotate_left
                                · simp only [Act.put, List.setIfInBounds_toArray, List.set_cons_zero, List.set_cons_succ, i64_w, i32_w]
                                  rfl
                                refine pure_ (i := 2) (N := some 52) (v := ?_) (a' := ?_) #[true, true, true, false, false, false, false, false, false, false, false, false] rfl rfl (any_of HT_.out (by kernel_rfl)) (fun _ _ _ h => h) (Or.inl ⟨by rfl, ?_⟩) ?_ ?_
                                rotate_left
                                · intro w'
                                  go_simp
                                  with_reducible rfl
                                rotate_left
                                · simp only [Act.put, List.setIfInBounds_toArray, List.set_cons_zero, List.set_cons_succ, i64_w, i32_w]
                                  rfl
                                refine pure_ (i := 4) (N := some 54) (v := ?_) (a' := ?_) #[true, true, true, false, true, false, false, false, false, false, false, false] rfl rfl (any_of HT_.out (by kernel_rfl)) (fun _ _ _ h => h) (Or.inl ⟨by rfl, ?_⟩) ?_ ?_
                                rotate_left
                                · intro w'
                                  go_simp
                                  with_reducible rfl
                                rotate_left
                                · simp only [Act.put, List.setIfInBounds_toArray, List.set_cons_zero, List.set_cons_succ, i64_w, i32_w]
                                  rfl
                                refine pure_ (i := 5) (N := some 55) (v := ?_) (a' := ?_) #[true, true, true, false, true, true, false, false, false, false, false, false] rfl rfl (any_of HT_.out (by kernel_rfl)) (fun _ _ _ h => h) (Or.inl ⟨by rfl, ?_⟩) ?_ ?_
                                rotate_left
                                · intro w'
                                  go_simp
                                  with_reducible rfl
                                rotate_left
                                · simp only [Act.put, List.setIfInBounds_toArray, List.set_cons_zero, List.set_cons_succ, i64_w, i32_w]
                                  rfl
                                refine pure_ (i := 6) (N := some 56) (v := ?_) (a' := ?_) #[true, true, true, false, true, true, true, false, false, false, false, false] rfl rfl (any_of HT_.out (by kernel_rfl)) (fun _ _ _ h => h) (Or.inl ⟨by rfl, ?_⟩) ?_ ?_
                                rotate_left
                                · intro w'
                                  go_simp
                                  with_reducible rfl
                                rotate_left
                                · simp only [Act.put, List.setIfInBounds_toArray, List.set_cons_zero, List.set_cons_succ, i64_w, i32_w]
                                  rfl
                                refine take_ (i := 3) (N := some 53) (v := ?_) (a' := ?_) #[true, true, true, true, true, true, true, false, false, false, false, false] rfl rfl (take_ofW HT_.out HW_.out (by kernel_rfl)) (fun _ _ _ h => h) (Or.inl ⟨by rfl, ?_⟩) hHeld ?_ ?_
                                rotate_left
                                · rintro w' ⟨s0, s1, s2, s3, s4, s5, s6, s7⟩
                                  go_simp
                                  with_reducible rfl
                                rotate_left
                                · simp only [Act.put, List.setIfInBounds_toArray, List.set_cons_zero, List.set_cons_succ, i64_w, i32_w]
                                  rfl
                                refine take_ (i := 7) (N := some 57) (v := ?_) (a' := ?_) #[true, true, true, true, true, true, true, true, false, false, false, false] rfl rfl (take_ofW HT_.out HW_.out (by kernel_rfl)) (fun _ _ _ h => h) (Or.inl ⟨by rfl, ?_⟩) hHeld ?_ ?_
                                rotate_left
                                · rintro w' ⟨s0, s1, s2, s3, s4, s5, s6, s7⟩
                                  go_simp
                                  with_reducible rfl
                                rotate_left
                                · simp only [Act.put, List.setIfInBounds_toArray, List.set_cons_zero, List.set_cons_succ, i64_w, i32_w]
                                  rfl
                                refine join_ (σ := Nat × Nat) 2 #[true, true, true, true, true, true, true, true, true, true, false, false] (fun s_ => [(10, .pointer (some ⟨s_.1, 0, none⟩)), (11, .pointer (some ⟨s_.2, 0, none⟩))]) (fun s_ w' => (w'.cell? (ad362.add ((x47_3).toNat * 4)) = some (.int .i64 ((rd_T32 t349 x47_3).f0)) ∧ w'.cell? ⟨(ad362.add ((x47_3).toNat * 4)).block, (ad362.add ((x47_3).toNat * 4)).off + 1, none⟩ = some (.string ((rd_T32 t349 x47_3).f1)) ∧ w'.cell? ⟨(ad362.add ((x47_3).toNat * 4)).block, (ad362.add ((x47_3).toNat * 4)).off + 2, none⟩ = some (.int .i64 ((rd_T32 t349 x47_3).f2)) ∧ w'.cell? ⟨(ad362.add ((x47_3).toNat * 4)).block, (ad362.add ((x47_3).toNat * 4)).off + 3, none⟩ = some (.int .i64 ((rd_T32 t349 x47_3).f3)) ∧ w'.cell? (ad363.add ((x47_3).toNat * 4)) = some (.int .i64 ((rd_T32 t357 x47_3).f0)) ∧ w'.cell? ⟨(ad363.add ((x47_3).toNat * 4)).block, (ad363.add ((x47_3).toNat * 4)).off + 1, none⟩ = some (.string ((rd_T32 t357 x47_3).f1)) ∧ w'.cell? ⟨(ad363.add ((x47_3).toNat * 4)).block, (ad363.add ((x47_3).toNat * 4)).off + 2, none⟩ = some (.int .i64 ((rd_T32 t357 x47_3).f2)) ∧ w'.cell? ⟨(ad363.add ((x47_3).toNat * 4)).block, (ad363.add ((x47_3).toNat * 4)).off + 3, none⟩ = some (.int .i64 ((rd_T32 t357 x47_3).f3))) ∧ (Kd.R k32 32 w' w.heap.size (fun k_ => some k_ ≠ (.slice (some ad363) t357.length co34 : Value).ownBlock ∧ k_ ≠ s_.1 ∧ k_ ≠ s_.2) (.slice (some ad362) t349.length co22) t349) ∧ (Kd.R k32 32 w' w.heap.size (fun k_ => some k_ ≠ (.slice (some ad362) t349.length co22 : Value).ownBlock ∧ k_ ≠ s_.1 ∧ k_ ≠ s_.2) (.slice (some ad363) t357.length co34) t357) ∧ (w'.heap[s_.1]? = some (.cells #[.int .i64 0, .string (⟨#[]⟩ : ByteArray), .int .i64 0, .int .i64 0] 32 (0, 0))) ∧ (w'.heap[s_.2]? = some (.cells #[.int .i64 0, .string (⟨#[]⟩ : ByteArray), .int .i64 0, .int .i64 0] 32 (0, 0))) ∧ (w.heap.size ≤ s_.1) ∧ (w.heap.size ≤ s_.1) ∧ (s_.2 ≠ s_.1) ∧ (s_.1 ≠ s_.2) ∧ (w.heap.size ≤ s_.2) ∧ (w.heap.size ≤ s_.2) ∧ (Below w.heap.size w w')) ?_ ?_
                                rotate_left
                                · intro hCont
                                  refine two_ (i := 8) (j := 9) (Ni := some 10) (Nj := some 11) #[true, true, true, true, true, true, true, true, true, false, false, false] #[true, true, true, true, true, true, true, true, false, true, false, false] rfl rfl rfl rfl (two_of HT_.out (by kernel_rfl)) (by decide) (by decide) (fun K hK => ?_) (fun K hK => ?_)
                                  · skip
                                    refine box_step ?hg (N := 10) ?hd (cs := #[.int .i64 0, .string (⟨#[]⟩ : ByteArray), .int .i64 0, .int .i64 0]) (t := 32) ?hr ?_; (case hd => rfl); (case hg => rfl); (case hr => first | (go_simp; done) | (go_simp; rfl))
                                    intro gb364 hg w35 hbox hb
                                    have HS0_ := (hb.cell (World.block_lt_of_cell? _ _ (hHeld.1))).trans (hHeld.1)
                                    have HS1_ := (hb.cell (World.block_lt_of_cell? _ _ (hHeld.2.1))).trans (hHeld.2.1)
                                    have HS2_ := (hb.cell (World.block_lt_of_cell? _ _ (hHeld.2.2.1))).trans (hHeld.2.2.1)
                                    have HS3_ := (hb.cell (World.block_lt_of_cell? _ _ (hHeld.2.2.2.1))).trans (hHeld.2.2.2.1)
                                    have HS4_ := (hb.cell (World.block_lt_of_cell? _ _ (hHeld.2.2.2.2.1))).trans (hHeld.2.2.2.2.1)
                                    have HS5_ := (hb.cell (World.block_lt_of_cell? _ _ (hHeld.2.2.2.2.2.1))).trans (hHeld.2.2.2.2.2.1)
                                    have HS6_ := (hb.cell (World.block_lt_of_cell? _ _ (hHeld.2.2.2.2.2.2.1))).trans (hHeld.2.2.2.2.2.2.1)
                                    have HS7_ := (hb.cell (World.block_lt_of_cell? _ _ (hHeld.2.2.2.2.2.2.2))).trans (hHeld.2.2.2.2.2.2.2)
                                    have n0_ := Aside0.mk (Kd.R_below (Kd.R_elderB (by (with_reducible repeat (first | apply Kd.R_alloc | apply Kd.R_drewN | apply Kd.R_drew)); exact HO_3.out) gb364 (Nat.le_of_eq hg.symm)) hb)
                                    have n1_ := Aside0.mk (Kd.R_below (Kd.R_elderB (by (with_reducible repeat (first | apply Kd.R_alloc | apply Kd.R_drewN | apply Kd.R_drew)); exact HO_6.out) gb364 (Nat.le_of_eq hg.symm)) hb)
                                    have n2_ := Aside0.mk (below_step (by repeat (first | (with_reducible first | exact HB.out | apply below_alloc | apply pw_below_drewN | apply below_drew1) | exact HB.out)) hb)
                                    have n3_ := Aside0.mk (hbox)
                                    have n4_ := Aside0.mk ((by rw [hg]; exact (below_size (by repeat (first | (with_reducible first | exact HB.out | apply below_alloc | apply pw_below_drewN | apply below_drew1) | exact HB.out))) : w.heap.size ≤ gb364))
                                    have n5_ := Aside0.mk ((by rw [hg]; exact (below_size (by repeat (first | (with_reducible first | exact HB.out | apply below_alloc | apply pw_below_drewN | apply below_drew1) | exact HB.out))) : w.heap.size ≤ gb364))
                                    clear HO_3
                                    clear HO_6
                                    clear HB
                                    have HO_3 := n0_
                                    have HO_6 := n1_
                                    have HB := n2_
                                    have BK364 := n3_
                                    have GW364 := n4_
                                    have GE364 := n5_
                                    clear n0_ n1_ n2_ n3_ n4_ n5_
                                    clear hb hbox hg
                                    refine hK.out _ _ ⟨HS0_, HS1_, HS2_, HS3_, HS4_, HS5_, HS6_, HS7_⟩ (fun hHeld => ?_)
                                    clear hK K
                                    refine norm_ (a' := ?_) ?_ ?_
                                    rotate_left
                                    · show Act.put _ (some 10) _ = _
                                      simp only [Act.put, List.setIfInBounds_toArray, List.set_cons_zero, List.set_cons_succ, i64_w, i32_w]
                                      rfl
                                    refine one_ (i := 9) (N := some 11) #[true, true, true, true, true, true, true, true, true, true, false, false] rfl rfl (one_of HT_.out (by kernel_rfl)) (by decide) (fun K hK => ?_)
                                    refine box_step ?hg (N := 11) ?hd (cs := #[.int .i64 0, .string (⟨#[]⟩ : ByteArray), .int .i64 0, .int .i64 0]) (t := 32) ?hr ?_; (case hd => rfl); (case hg => rfl); (case hr => first | (go_simp; done) | (go_simp; rfl))
                                    intro gb365 hg w36 hbox hb
                                    have HS0_ := (hb.cell (World.block_lt_of_cell? _ _ (hHeld.1))).trans (hHeld.1)
                                    have HS1_ := (hb.cell (World.block_lt_of_cell? _ _ (hHeld.2.1))).trans (hHeld.2.1)
                                    have HS2_ := (hb.cell (World.block_lt_of_cell? _ _ (hHeld.2.2.1))).trans (hHeld.2.2.1)
                                    have HS3_ := (hb.cell (World.block_lt_of_cell? _ _ (hHeld.2.2.2.1))).trans (hHeld.2.2.2.1)
                                    have HS4_ := (hb.cell (World.block_lt_of_cell? _ _ (hHeld.2.2.2.2.1))).trans (hHeld.2.2.2.2.1)
                                    have HS5_ := (hb.cell (World.block_lt_of_cell? _ _ (hHeld.2.2.2.2.2.1))).trans (hHeld.2.2.2.2.2.1)
                                    have HS6_ := (hb.cell (World.block_lt_of_cell? _ _ (hHeld.2.2.2.2.2.2.1))).trans (hHeld.2.2.2.2.2.2.1)
                                    have HS7_ := (hb.cell (World.block_lt_of_cell? _ _ (hHeld.2.2.2.2.2.2.2))).trans (hHeld.2.2.2.2.2.2.2)
                                    have n0_ := Aside0.mk (Kd.R_below (Kd.R_elderB (by (with_reducible repeat (first | apply Kd.R_alloc | apply Kd.R_drewN | apply Kd.R_drew)); exact HO_3.out) gb365 (Nat.le_of_eq hg.symm)) hb)
                                    have n1_ := Aside0.mk (Kd.R_below (Kd.R_elderB (by (with_reducible repeat (first | apply Kd.R_alloc | apply Kd.R_drewN | apply Kd.R_drew)); exact HO_6.out) gb365 (Nat.le_of_eq hg.symm)) hb)
                                    have n2_ := Aside0.mk (blk_below (g := gb364) (o := .cells #[.int .i64 0, .string (⟨#[]⟩ : ByteArray), .int .i64 0, .int .i64 0] 32 (0, 0)) (by (with_reducible repeat (first | refine blk_drewN ?_ _ | refine blk_drew ?_ | refine blk_alloc ?_ _)); exact BK364.out) hb)
                                    have n3_ := Aside0.mk (below_step (by repeat (first | (with_reducible first | exact HB.out | apply below_alloc | apply pw_below_drewN | apply below_drew1 | refine below_set ?_ GE364.out) | exact HB.out)) hb)
                                    have n4_ := Aside0.mk (hbox)
                                    have n5_ := Aside0.mk ((by rw [hg]; exact (below_size (by repeat (first | (with_reducible first | exact HB.out | apply below_alloc | apply pw_below_drewN | apply below_drew1 | refine below_set ?_ GE364.out) | exact HB.out))) : w.heap.size ≤ gb365))
                                    have n6_ := Aside0.mk ((by rw [hg]; exact (below_size (by repeat (first | (with_reducible first | exact HB.out | apply below_alloc | apply pw_below_drewN | apply below_drew1 | refine below_set ?_ GE364.out) | exact HB.out))) : w.heap.size ≤ gb365))
                                    have n7_ := Aside0.mk ((by rw [hg]; exact Nat.ne_of_lt (blk_lt (g := gb364) (o := .cells #[.int .i64 0, .string (⟨#[]⟩ : ByteArray), .int .i64 0, .int .i64 0] 32 (0, 0)) (by (with_reducible repeat (first | refine blk_drewN ?_ _ | refine blk_drew ?_ | refine blk_alloc ?_ _)); exact BK364.out)) : gb364 ≠ gb365))
                                    have n8_ := Aside0.mk ((by rw [hg]; exact Nat.ne_of_gt (blk_lt (g := gb364) (o := .cells #[.int .i64 0, .string (⟨#[]⟩ : ByteArray), .int .i64 0, .int .i64 0] 32 (0, 0)) (by (with_reducible repeat (first | refine blk_drewN ?_ _ | refine blk_drew ?_ | refine blk_alloc ?_ _)); exact BK364.out)) : gb365 ≠ gb364))
                                    clear HO_3
                                    clear HO_6
                                    clear BK364
                                    clear HB
                                    have HO_3 := n0_
                                    have HO_6 := n1_
                                    have BK364 := n2_
                                    have HB := n3_
                                    have BK365 := n4_
                                    have GW365 := n5_
                                    have GE365 := n6_
                                    have NB364_365 := n7_
                                    have NB365_364 := n8_
                                    clear n0_ n1_ n2_ n3_ n4_ n5_ n6_ n7_ n8_
                                    clear hb hbox hg
                                    refine hK.out _ _ ⟨HS0_, HS1_, HS2_, HS3_, HS4_, HS5_, HS6_, HS7_⟩ (fun hHeld => ?_)
                                    clear hK K
                                    refine norm_ (a' := ?_) ?_ ?_
                                    rotate_left
                                    · show Act.put _ (some 11) _ = _
                                      simp only [Act.put, List.setIfInBounds_toArray, List.set_cons_zero, List.set_cons_succ, i64_w, i32_w]
                                      rfl
                                    exact norm_ (by simp only [putAll, Act.put, List.setIfInBounds_toArray, List.set_cons_zero, List.set_cons_succ]) (hCont (gb364, gb365) _ ⟨hHeld, (by (with_reducible repeat (first | apply Kd.R_alloc | apply Kd.R_drewN | apply Kd.R_drew)); exact Kd.R_mono HO_3.out (fun _ hk => ⟨hk.1.1, ⟨hk.1.2, hk.2⟩⟩)), (by (with_reducible repeat (first | apply Kd.R_alloc | apply Kd.R_drewN | apply Kd.R_drew)); exact Kd.R_mono HO_6.out (fun _ hk => ⟨hk.1.1, ⟨hk.1.2, hk.2⟩⟩)), (by (with_reducible repeat (first | refine blk_drewN ?_ _ | refine blk_drew ?_ | refine blk_alloc ?_ _)); exact BK364.out), (by (with_reducible repeat (first | refine blk_drewN ?_ _ | refine blk_drew ?_ | refine blk_alloc ?_ _)); exact BK365.out), GW364.out, GE364.out, NB365_364.out, NB364_365.out, GW365.out, GE365.out, (by repeat (first | (with_reducible first | exact HB.out | apply below_alloc | apply pw_below_drewN | apply below_drew1 | refine below_set ?_ GE364.out | refine below_set ?_ GE365.out) | exact HB.out))⟩)
                                  · skip
                                    refine box_step ?hg (N := 11) ?hd (cs := #[.int .i64 0, .string (⟨#[]⟩ : ByteArray), .int .i64 0, .int .i64 0]) (t := 32) ?hr ?_; (case hd => rfl); (case hg => rfl); (case hr => first | (go_simp; done) | (go_simp; rfl))
                                    intro gb365 hg w35 hbox hb
                                    have HS0_ := (hb.cell (World.block_lt_of_cell? _ _ (hHeld.1))).trans (hHeld.1)
                                    have HS1_ := (hb.cell (World.block_lt_of_cell? _ _ (hHeld.2.1))).trans (hHeld.2.1)
                                    have HS2_ := (hb.cell (World.block_lt_of_cell? _ _ (hHeld.2.2.1))).trans (hHeld.2.2.1)
                                    have HS3_ := (hb.cell (World.block_lt_of_cell? _ _ (hHeld.2.2.2.1))).trans (hHeld.2.2.2.1)
                                    have HS4_ := (hb.cell (World.block_lt_of_cell? _ _ (hHeld.2.2.2.2.1))).trans (hHeld.2.2.2.2.1)
                                    have HS5_ := (hb.cell (World.block_lt_of_cell? _ _ (hHeld.2.2.2.2.2.1))).trans (hHeld.2.2.2.2.2.1)
                                    have HS6_ := (hb.cell (World.block_lt_of_cell? _ _ (hHeld.2.2.2.2.2.2.1))).trans (hHeld.2.2.2.2.2.2.1)
                                    have HS7_ := (hb.cell (World.block_lt_of_cell? _ _ (hHeld.2.2.2.2.2.2.2))).trans (hHeld.2.2.2.2.2.2.2)
                                    have n0_ := Aside0.mk (Kd.R_below (Kd.R_elderB (by (with_reducible repeat (first | apply Kd.R_alloc | apply Kd.R_drewN | apply Kd.R_drew)); exact HO_3.out) gb365 (Nat.le_of_eq hg.symm)) hb)
                                    have n1_ := Aside0.mk (Kd.R_below (Kd.R_elderB (by (with_reducible repeat (first | apply Kd.R_alloc | apply Kd.R_drewN | apply Kd.R_drew)); exact HO_6.out) gb365 (Nat.le_of_eq hg.symm)) hb)
                                    have n2_ := Aside0.mk (below_step (by repeat (first | (with_reducible first | exact HB.out | apply below_alloc | apply pw_below_drewN | apply below_drew1) | exact HB.out)) hb)
                                    have n3_ := Aside0.mk (hbox)
                                    have n4_ := Aside0.mk ((by rw [hg]; exact (below_size (by repeat (first | (with_reducible first | exact HB.out | apply below_alloc | apply pw_below_drewN | apply below_drew1) | exact HB.out))) : w.heap.size ≤ gb365))
                                    have n5_ := Aside0.mk ((by rw [hg]; exact (below_size (by repeat (first | (with_reducible first | exact HB.out | apply below_alloc | apply pw_below_drewN | apply below_drew1) | exact HB.out))) : w.heap.size ≤ gb365))
                                    clear HO_3
                                    clear HO_6
                                    clear HB
                                    have HO_3 := n0_
                                    have HO_6 := n1_
                                    have HB := n2_
                                    have BK365 := n3_
                                    have GW365 := n4_
                                    have GE365 := n5_
                                    clear n0_ n1_ n2_ n3_ n4_ n5_
                                    clear hb hbox hg
                                    refine hK.out _ _ ⟨HS0_, HS1_, HS2_, HS3_, HS4_, HS5_, HS6_, HS7_⟩ (fun hHeld => ?_)
                                    clear hK K
                                    refine norm_ (a' := ?_) ?_ ?_
                                    rotate_left
                                    · show Act.put _ (some 11) _ = _
                                      simp only [Act.put, List.setIfInBounds_toArray, List.set_cons_zero, List.set_cons_succ, i64_w, i32_w]
                                      rfl
                                    refine one_ (i := 8) (N := some 10) #[true, true, true, true, true, true, true, true, true, true, false, false] rfl rfl (one_of HT_.out (by kernel_rfl)) (by decide) (fun K hK => ?_)
                                    refine box_step ?hg (N := 10) ?hd (cs := #[.int .i64 0, .string (⟨#[]⟩ : ByteArray), .int .i64 0, .int .i64 0]) (t := 32) ?hr ?_; (case hd => rfl); (case hg => rfl); (case hr => first | (go_simp; done) | (go_simp; rfl))
                                    intro gb364 hg w36 hbox hb
                                    have HS0_ := (hb.cell (World.block_lt_of_cell? _ _ (hHeld.1))).trans (hHeld.1)
                                    have HS1_ := (hb.cell (World.block_lt_of_cell? _ _ (hHeld.2.1))).trans (hHeld.2.1)
                                    have HS2_ := (hb.cell (World.block_lt_of_cell? _ _ (hHeld.2.2.1))).trans (hHeld.2.2.1)
                                    have HS3_ := (hb.cell (World.block_lt_of_cell? _ _ (hHeld.2.2.2.1))).trans (hHeld.2.2.2.1)
                                    have HS4_ := (hb.cell (World.block_lt_of_cell? _ _ (hHeld.2.2.2.2.1))).trans (hHeld.2.2.2.2.1)
                                    have HS5_ := (hb.cell (World.block_lt_of_cell? _ _ (hHeld.2.2.2.2.2.1))).trans (hHeld.2.2.2.2.2.1)
                                    have HS6_ := (hb.cell (World.block_lt_of_cell? _ _ (hHeld.2.2.2.2.2.2.1))).trans (hHeld.2.2.2.2.2.2.1)
                                    have HS7_ := (hb.cell (World.block_lt_of_cell? _ _ (hHeld.2.2.2.2.2.2.2))).trans (hHeld.2.2.2.2.2.2.2)
                                    have n0_ := Aside0.mk (Kd.R_below (Kd.R_elderB (by (with_reducible repeat (first | apply Kd.R_alloc | apply Kd.R_drewN | apply Kd.R_drew)); exact HO_3.out) gb364 (Nat.le_of_eq hg.symm)) hb)
                                    have n1_ := Aside0.mk (Kd.R_below (Kd.R_elderB (by (with_reducible repeat (first | apply Kd.R_alloc | apply Kd.R_drewN | apply Kd.R_drew)); exact HO_6.out) gb364 (Nat.le_of_eq hg.symm)) hb)
                                    have n2_ := Aside0.mk (blk_below (g := gb365) (o := .cells #[.int .i64 0, .string (⟨#[]⟩ : ByteArray), .int .i64 0, .int .i64 0] 32 (0, 0)) (by (with_reducible repeat (first | refine blk_drewN ?_ _ | refine blk_drew ?_ | refine blk_alloc ?_ _)); exact BK365.out) hb)
                                    have n3_ := Aside0.mk (below_step (by repeat (first | (with_reducible first | exact HB.out | apply below_alloc | apply pw_below_drewN | apply below_drew1 | refine below_set ?_ GE365.out) | exact HB.out)) hb)
                                    have n4_ := Aside0.mk (hbox)
                                    have n5_ := Aside0.mk ((by rw [hg]; exact (below_size (by repeat (first | (with_reducible first | exact HB.out | apply below_alloc | apply pw_below_drewN | apply below_drew1 | refine below_set ?_ GE365.out) | exact HB.out))) : w.heap.size ≤ gb364))
                                    have n6_ := Aside0.mk ((by rw [hg]; exact (below_size (by repeat (first | (with_reducible first | exact HB.out | apply below_alloc | apply pw_below_drewN | apply below_drew1 | refine below_set ?_ GE365.out) | exact HB.out))) : w.heap.size ≤ gb364))
                                    have n7_ := Aside0.mk ((by rw [hg]; exact Nat.ne_of_lt (blk_lt (g := gb365) (o := .cells #[.int .i64 0, .string (⟨#[]⟩ : ByteArray), .int .i64 0, .int .i64 0] 32 (0, 0)) (by (with_reducible repeat (first | refine blk_drewN ?_ _ | refine blk_drew ?_ | refine blk_alloc ?_ _)); exact BK365.out)) : gb365 ≠ gb364))
                                    have n8_ := Aside0.mk ((by rw [hg]; exact Nat.ne_of_gt (blk_lt (g := gb365) (o := .cells #[.int .i64 0, .string (⟨#[]⟩ : ByteArray), .int .i64 0, .int .i64 0] 32 (0, 0)) (by (with_reducible repeat (first | refine blk_drewN ?_ _ | refine blk_drew ?_ | refine blk_alloc ?_ _)); exact BK365.out)) : gb364 ≠ gb365))
                                    clear HO_3
                                    clear HO_6
                                    clear BK365
                                    clear HB
                                    have HO_3 := n0_
                                    have HO_6 := n1_
                                    have BK365 := n2_
                                    have HB := n3_
                                    have BK364 := n4_
                                    have GW364 := n5_
                                    have GE364 := n6_
                                    have NB365_364 := n7_
                                    have NB364_365 := n8_
                                    clear n0_ n1_ n2_ n3_ n4_ n5_ n6_ n7_ n8_
                                    clear hb hbox hg
                                    refine hK.out _ _ ⟨HS0_, HS1_, HS2_, HS3_, HS4_, HS5_, HS6_, HS7_⟩ (fun hHeld => ?_)
                                    clear hK K
                                    refine norm_ (a' := ?_) ?_ ?_
                                    rotate_left
                                    · show Act.put _ (some 10) _ = _
                                      simp only [Act.put, List.setIfInBounds_toArray, List.set_cons_zero, List.set_cons_succ, i64_w, i32_w]
                                      rfl
                                    exact norm_ (by simp only [putAll, Act.put, List.setIfInBounds_toArray, List.set_cons_zero, List.set_cons_succ]) (hCont (gb364, gb365) _ ⟨hHeld, (by (with_reducible repeat (first | apply Kd.R_alloc | apply Kd.R_drewN | apply Kd.R_drew)); exact Kd.R_mono HO_3.out (fun _ hk => ⟨hk.1.1, ⟨hk.2, hk.1.2⟩⟩)), (by (with_reducible repeat (first | apply Kd.R_alloc | apply Kd.R_drewN | apply Kd.R_drew)); exact Kd.R_mono HO_6.out (fun _ hk => ⟨hk.1.1, ⟨hk.2, hk.1.2⟩⟩)), (by (with_reducible repeat (first | refine blk_drewN ?_ _ | refine blk_drew ?_ | refine blk_alloc ?_ _)); exact BK364.out), (by (with_reducible repeat (first | refine blk_drewN ?_ _ | refine blk_drew ?_ | refine blk_alloc ?_ _)); exact BK365.out), GW364.out, GE364.out, NB365_364.out, NB364_365.out, GW365.out, GE365.out, (by repeat (first | (with_reducible first | exact HB.out | apply below_alloc | apply pw_below_drewN | apply below_drew1 | refine below_set ?_ GE365.out | refine below_set ?_ GE364.out) | exact HB.out))⟩)
                                rintro ⟨gb364, gb365⟩ w37 ⟨hS_, h0_, h1_, h2_, h3_, h4_, h5_, h6_, h7_, h8_, h9_, h10_⟩
                                have n0_ : Aside0 (Kd.R k32 32 w37 w.heap.size (fun k_ => some k_ ≠ (.slice (some ad363) t357.length co34 : Value).ownBlock ∧ k_ ≠ gb364 ∧ k_ ≠ gb365) (.slice (some ad362) t349.length co22) t349) := ⟨h0_⟩
                                have n1_ : Aside0 (Kd.R k32 32 w37 w.heap.size (fun k_ => some k_ ≠ (.slice (some ad362) t349.length co22 : Value).ownBlock ∧ k_ ≠ gb364 ∧ k_ ≠ gb365) (.slice (some ad363) t357.length co34) t357) := ⟨h1_⟩
                                have n2_ : Aside0 (w37.heap[gb364]? = some (.cells #[.int .i64 0, .string (⟨#[]⟩ : ByteArray), .int .i64 0, .int .i64 0] 32 (0, 0))) := ⟨h2_⟩
                                have n3_ : Aside0 (w37.heap[gb365]? = some (.cells #[.int .i64 0, .string (⟨#[]⟩ : ByteArray), .int .i64 0, .int .i64 0] 32 (0, 0))) := ⟨h3_⟩
                                have n4_ : Aside0 (w.heap.size ≤ gb364) := ⟨h4_⟩
                                have n5_ : Aside0 (w.heap.size ≤ gb364) := ⟨h5_⟩
                                have n6_ : Aside0 (gb365 ≠ gb364) := ⟨h6_⟩
                                have n7_ : Aside0 (gb364 ≠ gb365) := ⟨h7_⟩
                                have n8_ : Aside0 (w.heap.size ≤ gb365) := ⟨h8_⟩
                                have n9_ : Aside0 (w.heap.size ≤ gb365) := ⟨h9_⟩
                                have n10_ : Aside0 (Below w.heap.size w w37) := ⟨h10_⟩
                                clear HO_3
                                clear HO_6
                                clear HB
                                clear h0_ h1_ h2_ h3_ h4_ h5_ h6_ h7_ h8_ h9_ h10_
                                have HO_3 := n0_
                                have HO_6 := n1_
                                have BK364 := n2_
                                have BK365 := n3_
                                have GW364 := n4_
                                have GE364 := n5_
                                have NB365_364 := n6_
                                have NB364_365 := n7_
                                have GW365 := n8_
                                have GE365 := n9_
                                have HB := n10_
                                clear n0_ n1_ n2_ n3_ n4_ n5_ n6_ n7_ n8_ n9_ n10_
                                have hHeld : w37.cell? (ad362.add ((x47_3).toNat * 4)) = some (.int .i64 ((rd_T32 t349 x47_3).f0)) ∧ w37.cell? ⟨(ad362.add ((x47_3).toNat * 4)).block, (ad362.add ((x47_3).toNat * 4)).off + 1, none⟩ = some (.string ((rd_T32 t349 x47_3).f1)) ∧ w37.cell? ⟨(ad362.add ((x47_3).toNat * 4)).block, (ad362.add ((x47_3).toNat * 4)).off + 2, none⟩ = some (.int .i64 ((rd_T32 t349 x47_3).f2)) ∧ w37.cell? ⟨(ad362.add ((x47_3).toNat * 4)).block, (ad362.add ((x47_3).toNat * 4)).off + 3, none⟩ = some (.int .i64 ((rd_T32 t349 x47_3).f3)) ∧ w37.cell? (ad363.add ((x47_3).toNat * 4)) = some (.int .i64 ((rd_T32 t357 x47_3).f0)) ∧ w37.cell? ⟨(ad363.add ((x47_3).toNat * 4)).block, (ad363.add ((x47_3).toNat * 4)).off + 1, none⟩ = some (.string ((rd_T32 t357 x47_3).f1)) ∧ w37.cell? ⟨(ad363.add ((x47_3).toNat * 4)).block, (ad363.add ((x47_3).toNat * 4)).off + 2, none⟩ = some (.int .i64 ((rd_T32 t357 x47_3).f2)) ∧ w37.cell? ⟨(ad363.add ((x47_3).toNat * 4)).block, (ad363.add ((x47_3).toNat * 4)).off + 3, none⟩ = some (.int .i64 ((rd_T32 t357 x47_3).f3)) := hS_
                                refine norm_ (a' := ?_) ?_ ?_
                                rotate_left
                                · simp only [putAll, Act.put, List.setIfInBounds_toArray, List.set_cons_zero, List.set_cons_succ]
                                  rfl
                                refine one_ (i := 10) (N := none) #[true, true, true, true, true, true, true, true, true, true, true, false] rfl rfl (one_of HT_.out (by kernel_rfl)) (by decide) (fun K hK => ?_)
                                have hs38 : w37.cell? ⟨gb364, 0, none⟩ = some (.int .i64 0) := (blk_cell BK364.out 0).trans rfl
                                have hfs38 := blk_frozen BK364.out 0
                                have hns38_1 := NB365_364.out
                                have hms38_1 := NB364_365.out
                                have hs39 : w37.cell? ⟨gb364, 1, none⟩ = some (.string (⟨#[]⟩ : ByteArray)) := (blk_cell BK364.out 1).trans rfl
                                have hfs39 := blk_frozen BK364.out 1
                                have hns39_1 := NB365_364.out
                                have hms39_1 := NB364_365.out
                                have hs40 : w37.cell? ⟨gb364, 2, none⟩ = some (.int .i64 0) := (blk_cell BK364.out 2).trans rfl
                                have hfs40 := blk_frozen BK364.out 2
                                have hns40_1 := NB365_364.out
                                have hms40_1 := NB364_365.out
                                have hs41 : w37.cell? ⟨gb364, 3, none⟩ = some (.int .i64 0) := (blk_cell BK364.out 3).trans rfl
                                have hfs41 := blk_frozen BK364.out 3
                                have hns41_1 := NB365_364.out
                                have hms41_1 := NB364_365.out
                                refine skip_ (w1 := ?_) (by rfl) rfl ?_ ?_
                                rotate_left
                                · go_simp
                                  rfl
                                refine hK.out _ _ ⟨((cell_far (p := ⟨gb364, _, none⟩) (by first | exact Kd.own_blk (Kd.R_away HO_3.out (fun _ hk => hk.2.1)) | (rw [add_block]; exact Kd.own_blk (Kd.R_away HO_3.out (fun _ hk => hk.2.1))) | (show (Addr.add _ _).block ≠ _; rw [add_block]; exact Kd.own_blk (Kd.R_away HO_3.out (fun _ hk => hk.2.1))) | (dsimp only; exact Kd.own_blk (Kd.R_away HO_3.out (fun _ hk => hk.2.1)))) _).trans (((cell_far (p := ⟨gb364, _, none⟩) (by first | exact Kd.own_blk (Kd.R_away HO_3.out (fun _ hk => hk.2.1)) | (rw [add_block]; exact Kd.own_blk (Kd.R_away HO_3.out (fun _ hk => hk.2.1))) | (show (Addr.add _ _).block ≠ _; rw [add_block]; exact Kd.own_blk (Kd.R_away HO_3.out (fun _ hk => hk.2.1))) | (dsimp only; exact Kd.own_blk (Kd.R_away HO_3.out (fun _ hk => hk.2.1)))) _).trans (((cell_far (p := ⟨gb364, _, none⟩) (by first | exact Kd.own_blk (Kd.R_away HO_3.out (fun _ hk => hk.2.1)) | (rw [add_block]; exact Kd.own_blk (Kd.R_away HO_3.out (fun _ hk => hk.2.1))) | (show (Addr.add _ _).block ≠ _; rw [add_block]; exact Kd.own_blk (Kd.R_away HO_3.out (fun _ hk => hk.2.1))) | (dsimp only; exact Kd.own_blk (Kd.R_away HO_3.out (fun _ hk => hk.2.1)))) _).trans (((cell_far (p := ⟨gb364, _, none⟩) (by first | exact Kd.own_blk (Kd.R_away HO_3.out (fun _ hk => hk.2.1)) | (rw [add_block]; exact Kd.own_blk (Kd.R_away HO_3.out (fun _ hk => hk.2.1))) | (show (Addr.add _ _).block ≠ _; rw [add_block]; exact Kd.own_blk (Kd.R_away HO_3.out (fun _ hk => hk.2.1))) | (dsimp only; exact Kd.own_blk (Kd.R_away HO_3.out (fun _ hk => hk.2.1)))) _).trans (hHeld.1)))))))), ((cell_far (p := ⟨gb364, _, none⟩) (by first | exact Kd.own_blk (Kd.R_away HO_3.out (fun _ hk => hk.2.1)) | (rw [add_block]; exact Kd.own_blk (Kd.R_away HO_3.out (fun _ hk => hk.2.1))) | (show (Addr.add _ _).block ≠ _; rw [add_block]; exact Kd.own_blk (Kd.R_away HO_3.out (fun _ hk => hk.2.1))) | (dsimp only; exact Kd.own_blk (Kd.R_away HO_3.out (fun _ hk => hk.2.1)))) _).trans (((cell_far (p := ⟨gb364, _, none⟩) (by first | exact Kd.own_blk (Kd.R_away HO_3.out (fun _ hk => hk.2.1)) | (rw [add_block]; exact Kd.own_blk (Kd.R_away HO_3.out (fun _ hk => hk.2.1))) | (show (Addr.add _ _).block ≠ _; rw [add_block]; exact Kd.own_blk (Kd.R_away HO_3.out (fun _ hk => hk.2.1))) | (dsimp only; exact Kd.own_blk (Kd.R_away HO_3.out (fun _ hk => hk.2.1)))) _).trans (((cell_far (p := ⟨gb364, _, none⟩) (by first | exact Kd.own_blk (Kd.R_away HO_3.out (fun _ hk => hk.2.1)) | (rw [add_block]; exact Kd.own_blk (Kd.R_away HO_3.out (fun _ hk => hk.2.1))) | (show (Addr.add _ _).block ≠ _; rw [add_block]; exact Kd.own_blk (Kd.R_away HO_3.out (fun _ hk => hk.2.1))) | (dsimp only; exact Kd.own_blk (Kd.R_away HO_3.out (fun _ hk => hk.2.1)))) _).trans (((cell_far (p := ⟨gb364, _, none⟩) (by first | exact Kd.own_blk (Kd.R_away HO_3.out (fun _ hk => hk.2.1)) | (rw [add_block]; exact Kd.own_blk (Kd.R_away HO_3.out (fun _ hk => hk.2.1))) | (show (Addr.add _ _).block ≠ _; rw [add_block]; exact Kd.own_blk (Kd.R_away HO_3.out (fun _ hk => hk.2.1))) | (dsimp only; exact Kd.own_blk (Kd.R_away HO_3.out (fun _ hk => hk.2.1)))) _).trans (hHeld.2.1)))))))), ((cell_far (p := ⟨gb364, _, none⟩) (by first | exact Kd.own_blk (Kd.R_away HO_3.out (fun _ hk => hk.2.1)) | (rw [add_block]; exact Kd.own_blk (Kd.R_away HO_3.out (fun _ hk => hk.2.1))) | (show (Addr.add _ _).block ≠ _; rw [add_block]; exact Kd.own_blk (Kd.R_away HO_3.out (fun _ hk => hk.2.1))) | (dsimp only; exact Kd.own_blk (Kd.R_away HO_3.out (fun _ hk => hk.2.1)))) _).trans (((cell_far (p := ⟨gb364, _, none⟩) (by first | exact Kd.own_blk (Kd.R_away HO_3.out (fun _ hk => hk.2.1)) | (rw [add_block]; exact Kd.own_blk (Kd.R_away HO_3.out (fun _ hk => hk.2.1))) | (show (Addr.add _ _).block ≠ _; rw [add_block]; exact Kd.own_blk (Kd.R_away HO_3.out (fun _ hk => hk.2.1))) | (dsimp only; exact Kd.own_blk (Kd.R_away HO_3.out (fun _ hk => hk.2.1)))) _).trans (((cell_far (p := ⟨gb364, _, none⟩) (by first | exact Kd.own_blk (Kd.R_away HO_3.out (fun _ hk => hk.2.1)) | (rw [add_block]; exact Kd.own_blk (Kd.R_away HO_3.out (fun _ hk => hk.2.1))) | (show (Addr.add _ _).block ≠ _; rw [add_block]; exact Kd.own_blk (Kd.R_away HO_3.out (fun _ hk => hk.2.1))) | (dsimp only; exact Kd.own_blk (Kd.R_away HO_3.out (fun _ hk => hk.2.1)))) _).trans (((cell_far (p := ⟨gb364, _, none⟩) (by first | exact Kd.own_blk (Kd.R_away HO_3.out (fun _ hk => hk.2.1)) | (rw [add_block]; exact Kd.own_blk (Kd.R_away HO_3.out (fun _ hk => hk.2.1))) | (show (Addr.add _ _).block ≠ _; rw [add_block]; exact Kd.own_blk (Kd.R_away HO_3.out (fun _ hk => hk.2.1))) | (dsimp only; exact Kd.own_blk (Kd.R_away HO_3.out (fun _ hk => hk.2.1)))) _).trans (hHeld.2.2.1)))))))), ((cell_far (p := ⟨gb364, _, none⟩) (by first | exact Kd.own_blk (Kd.R_away HO_3.out (fun _ hk => hk.2.1)) | (rw [add_block]; exact Kd.own_blk (Kd.R_away HO_3.out (fun _ hk => hk.2.1))) | (show (Addr.add _ _).block ≠ _; rw [add_block]; exact Kd.own_blk (Kd.R_away HO_3.out (fun _ hk => hk.2.1))) | (dsimp only; exact Kd.own_blk (Kd.R_away HO_3.out (fun _ hk => hk.2.1)))) _).trans (((cell_far (p := ⟨gb364, _, none⟩) (by first | exact Kd.own_blk (Kd.R_away HO_3.out (fun _ hk => hk.2.1)) | (rw [add_block]; exact Kd.own_blk (Kd.R_away HO_3.out (fun _ hk => hk.2.1))) | (show (Addr.add _ _).block ≠ _; rw [add_block]; exact Kd.own_blk (Kd.R_away HO_3.out (fun _ hk => hk.2.1))) | (dsimp only; exact Kd.own_blk (Kd.R_away HO_3.out (fun _ hk => hk.2.1)))) _).trans (((cell_far (p := ⟨gb364, _, none⟩) (by first | exact Kd.own_blk (Kd.R_away HO_3.out (fun _ hk => hk.2.1)) | (rw [add_block]; exact Kd.own_blk (Kd.R_away HO_3.out (fun _ hk => hk.2.1))) | (show (Addr.add _ _).block ≠ _; rw [add_block]; exact Kd.own_blk (Kd.R_away HO_3.out (fun _ hk => hk.2.1))) | (dsimp only; exact Kd.own_blk (Kd.R_away HO_3.out (fun _ hk => hk.2.1)))) _).trans (((cell_far (p := ⟨gb364, _, none⟩) (by first | exact Kd.own_blk (Kd.R_away HO_3.out (fun _ hk => hk.2.1)) | (rw [add_block]; exact Kd.own_blk (Kd.R_away HO_3.out (fun _ hk => hk.2.1))) | (show (Addr.add _ _).block ≠ _; rw [add_block]; exact Kd.own_blk (Kd.R_away HO_3.out (fun _ hk => hk.2.1))) | (dsimp only; exact Kd.own_blk (Kd.R_away HO_3.out (fun _ hk => hk.2.1)))) _).trans (hHeld.2.2.2.1)))))))), ((cell_far (p := ⟨gb364, _, none⟩) (by first | exact Kd.own_blk (Kd.R_away HO_6.out (fun _ hk => hk.2.1)) | (rw [add_block]; exact Kd.own_blk (Kd.R_away HO_6.out (fun _ hk => hk.2.1))) | (show (Addr.add _ _).block ≠ _; rw [add_block]; exact Kd.own_blk (Kd.R_away HO_6.out (fun _ hk => hk.2.1))) | (dsimp only; exact Kd.own_blk (Kd.R_away HO_6.out (fun _ hk => hk.2.1)))) _).trans (((cell_far (p := ⟨gb364, _, none⟩) (by first | exact Kd.own_blk (Kd.R_away HO_6.out (fun _ hk => hk.2.1)) | (rw [add_block]; exact Kd.own_blk (Kd.R_away HO_6.out (fun _ hk => hk.2.1))) | (show (Addr.add _ _).block ≠ _; rw [add_block]; exact Kd.own_blk (Kd.R_away HO_6.out (fun _ hk => hk.2.1))) | (dsimp only; exact Kd.own_blk (Kd.R_away HO_6.out (fun _ hk => hk.2.1)))) _).trans (((cell_far (p := ⟨gb364, _, none⟩) (by first | exact Kd.own_blk (Kd.R_away HO_6.out (fun _ hk => hk.2.1)) | (rw [add_block]; exact Kd.own_blk (Kd.R_away HO_6.out (fun _ hk => hk.2.1))) | (show (Addr.add _ _).block ≠ _; rw [add_block]; exact Kd.own_blk (Kd.R_away HO_6.out (fun _ hk => hk.2.1))) | (dsimp only; exact Kd.own_blk (Kd.R_away HO_6.out (fun _ hk => hk.2.1)))) _).trans (((cell_far (p := ⟨gb364, _, none⟩) (by first | exact Kd.own_blk (Kd.R_away HO_6.out (fun _ hk => hk.2.1)) | (rw [add_block]; exact Kd.own_blk (Kd.R_away HO_6.out (fun _ hk => hk.2.1))) | (show (Addr.add _ _).block ≠ _; rw [add_block]; exact Kd.own_blk (Kd.R_away HO_6.out (fun _ hk => hk.2.1))) | (dsimp only; exact Kd.own_blk (Kd.R_away HO_6.out (fun _ hk => hk.2.1)))) _).trans (hHeld.2.2.2.2.1)))))))), ((cell_far (p := ⟨gb364, _, none⟩) (by first | exact Kd.own_blk (Kd.R_away HO_6.out (fun _ hk => hk.2.1)) | (rw [add_block]; exact Kd.own_blk (Kd.R_away HO_6.out (fun _ hk => hk.2.1))) | (show (Addr.add _ _).block ≠ _; rw [add_block]; exact Kd.own_blk (Kd.R_away HO_6.out (fun _ hk => hk.2.1))) | (dsimp only; exact Kd.own_blk (Kd.R_away HO_6.out (fun _ hk => hk.2.1)))) _).trans (((cell_far (p := ⟨gb364, _, none⟩) (by first | exact Kd.own_blk (Kd.R_away HO_6.out (fun _ hk => hk.2.1)) | (rw [add_block]; exact Kd.own_blk (Kd.R_away HO_6.out (fun _ hk => hk.2.1))) | (show (Addr.add _ _).block ≠ _; rw [add_block]; exact Kd.own_blk (Kd.R_away HO_6.out (fun _ hk => hk.2.1))) | (dsimp only; exact Kd.own_blk (Kd.R_away HO_6.out (fun _ hk => hk.2.1)))) _).trans (((cell_far (p := ⟨gb364, _, none⟩) (by first | exact Kd.own_blk (Kd.R_away HO_6.out (fun _ hk => hk.2.1)) | (rw [add_block]; exact Kd.own_blk (Kd.R_away HO_6.out (fun _ hk => hk.2.1))) | (show (Addr.add _ _).block ≠ _; rw [add_block]; exact Kd.own_blk (Kd.R_away HO_6.out (fun _ hk => hk.2.1))) | (dsimp only; exact Kd.own_blk (Kd.R_away HO_6.out (fun _ hk => hk.2.1)))) _).trans (((cell_far (p := ⟨gb364, _, none⟩) (by first | exact Kd.own_blk (Kd.R_away HO_6.out (fun _ hk => hk.2.1)) | (rw [add_block]; exact Kd.own_blk (Kd.R_away HO_6.out (fun _ hk => hk.2.1))) | (show (Addr.add _ _).block ≠ _; rw [add_block]; exact Kd.own_blk (Kd.R_away HO_6.out (fun _ hk => hk.2.1))) | (dsimp only; exact Kd.own_blk (Kd.R_away HO_6.out (fun _ hk => hk.2.1)))) _).trans (hHeld.2.2.2.2.2.1)))))))), ((cell_far (p := ⟨gb364, _, none⟩) (by first | exact Kd.own_blk (Kd.R_away HO_6.out (fun _ hk => hk.2.1)) | (rw [add_block]; exact Kd.own_blk (Kd.R_away HO_6.out (fun _ hk => hk.2.1))) | (show (Addr.add _ _).block ≠ _; rw [add_block]; exact Kd.own_blk (Kd.R_away HO_6.out (fun _ hk => hk.2.1))) | (dsimp only; exact Kd.own_blk (Kd.R_away HO_6.out (fun _ hk => hk.2.1)))) _).trans (((cell_far (p := ⟨gb364, _, none⟩) (by first | exact Kd.own_blk (Kd.R_away HO_6.out (fun _ hk => hk.2.1)) | (rw [add_block]; exact Kd.own_blk (Kd.R_away HO_6.out (fun _ hk => hk.2.1))) | (show (Addr.add _ _).block ≠ _; rw [add_block]; exact Kd.own_blk (Kd.R_away HO_6.out (fun _ hk => hk.2.1))) | (dsimp only; exact Kd.own_blk (Kd.R_away HO_6.out (fun _ hk => hk.2.1)))) _).trans (((cell_far (p := ⟨gb364, _, none⟩) (by first | exact Kd.own_blk (Kd.R_away HO_6.out (fun _ hk => hk.2.1)) | (rw [add_block]; exact Kd.own_blk (Kd.R_away HO_6.out (fun _ hk => hk.2.1))) | (show (Addr.add _ _).block ≠ _; rw [add_block]; exact Kd.own_blk (Kd.R_away HO_6.out (fun _ hk => hk.2.1))) | (dsimp only; exact Kd.own_blk (Kd.R_away HO_6.out (fun _ hk => hk.2.1)))) _).trans (((cell_far (p := ⟨gb364, _, none⟩) (by first | exact Kd.own_blk (Kd.R_away HO_6.out (fun _ hk => hk.2.1)) | (rw [add_block]; exact Kd.own_blk (Kd.R_away HO_6.out (fun _ hk => hk.2.1))) | (show (Addr.add _ _).block ≠ _; rw [add_block]; exact Kd.own_blk (Kd.R_away HO_6.out (fun _ hk => hk.2.1))) | (dsimp only; exact Kd.own_blk (Kd.R_away HO_6.out (fun _ hk => hk.2.1)))) _).trans (hHeld.2.2.2.2.2.2.1)))))))), ((cell_far (p := ⟨gb364, _, none⟩) (by first | exact Kd.own_blk (Kd.R_away HO_6.out (fun _ hk => hk.2.1)) | (rw [add_block]; exact Kd.own_blk (Kd.R_away HO_6.out (fun _ hk => hk.2.1))) | (show (Addr.add _ _).block ≠ _; rw [add_block]; exact Kd.own_blk (Kd.R_away HO_6.out (fun _ hk => hk.2.1))) | (dsimp only; exact Kd.own_blk (Kd.R_away HO_6.out (fun _ hk => hk.2.1)))) _).trans (((cell_far (p := ⟨gb364, _, none⟩) (by first | exact Kd.own_blk (Kd.R_away HO_6.out (fun _ hk => hk.2.1)) | (rw [add_block]; exact Kd.own_blk (Kd.R_away HO_6.out (fun _ hk => hk.2.1))) | (show (Addr.add _ _).block ≠ _; rw [add_block]; exact Kd.own_blk (Kd.R_away HO_6.out (fun _ hk => hk.2.1))) | (dsimp only; exact Kd.own_blk (Kd.R_away HO_6.out (fun _ hk => hk.2.1)))) _).trans (((cell_far (p := ⟨gb364, _, none⟩) (by first | exact Kd.own_blk (Kd.R_away HO_6.out (fun _ hk => hk.2.1)) | (rw [add_block]; exact Kd.own_blk (Kd.R_away HO_6.out (fun _ hk => hk.2.1))) | (show (Addr.add _ _).block ≠ _; rw [add_block]; exact Kd.own_blk (Kd.R_away HO_6.out (fun _ hk => hk.2.1))) | (dsimp only; exact Kd.own_blk (Kd.R_away HO_6.out (fun _ hk => hk.2.1)))) _).trans (((cell_far (p := ⟨gb364, _, none⟩) (by first | exact Kd.own_blk (Kd.R_away HO_6.out (fun _ hk => hk.2.1)) | (rw [add_block]; exact Kd.own_blk (Kd.R_away HO_6.out (fun _ hk => hk.2.1))) | (show (Addr.add _ _).block ≠ _; rw [add_block]; exact Kd.own_blk (Kd.R_away HO_6.out (fun _ hk => hk.2.1))) | (dsimp only; exact Kd.own_blk (Kd.R_away HO_6.out (fun _ hk => hk.2.1)))) _).trans (hHeld.2.2.2.2.2.2.2))))))))⟩ (fun hHeld => ?_)
                                clear hK K
                                refine one_ (i := 11) (N := none) #[true, true, true, true, true, true, true, true, true, true, true, true] rfl rfl (one_of HT_.out (by kernel_rfl)) (by decide) (fun K hK => ?_)
                                have hs42 : w37.cell? ⟨gb365, 0, none⟩ = some (.int .i64 0) := (blk_cell BK365.out 0).trans rfl
                                have hfs42 := blk_frozen BK365.out 0
                                have hns42_0 := NB364_365.out
                                have hms42_0 := NB365_364.out
                                have hs43 : w37.cell? ⟨gb365, 1, none⟩ = some (.string (⟨#[]⟩ : ByteArray)) := (blk_cell BK365.out 1).trans rfl
                                have hfs43 := blk_frozen BK365.out 1
                                have hns43_0 := NB364_365.out
                                have hms43_0 := NB365_364.out
                                have hs44 : w37.cell? ⟨gb365, 2, none⟩ = some (.int .i64 0) := (blk_cell BK365.out 2).trans rfl
                                have hfs44 := blk_frozen BK365.out 2
                                have hns44_0 := NB364_365.out
                                have hms44_0 := NB365_364.out
                                have hs45 : w37.cell? ⟨gb365, 3, none⟩ = some (.int .i64 0) := (blk_cell BK365.out 3).trans rfl
                                have hfs45 := blk_frozen BK365.out 3
                                have hns45_0 := NB364_365.out
                                have hms45_0 := NB365_364.out
                                refine skip_ (w1 := ?_) (by rfl) rfl ?_ ?_
                                rotate_left
                                · go_simp
                                  rfl
                                refine hK.out _ _ ⟨((cell_far (p := ⟨gb365, _, none⟩) (by first | exact Kd.own_blk (Kd.R_away HO_3.out (fun _ hk => hk.2.2)) | (rw [add_block]; exact Kd.own_blk (Kd.R_away HO_3.out (fun _ hk => hk.2.2))) | (show (Addr.add _ _).block ≠ _; rw [add_block]; exact Kd.own_blk (Kd.R_away HO_3.out (fun _ hk => hk.2.2))) | (dsimp only; exact Kd.own_blk (Kd.R_away HO_3.out (fun _ hk => hk.2.2)))) _).trans (((cell_far (p := ⟨gb365, _, none⟩) (by first | exact Kd.own_blk (Kd.R_away HO_3.out (fun _ hk => hk.2.2)) | (rw [add_block]; exact Kd.own_blk (Kd.R_away HO_3.out (fun _ hk => hk.2.2))) | (show (Addr.add _ _).block ≠ _; rw [add_block]; exact Kd.own_blk (Kd.R_away HO_3.out (fun _ hk => hk.2.2))) | (dsimp only; exact Kd.own_blk (Kd.R_away HO_3.out (fun _ hk => hk.2.2)))) _).trans (((cell_far (p := ⟨gb365, _, none⟩) (by first | exact Kd.own_blk (Kd.R_away HO_3.out (fun _ hk => hk.2.2)) | (rw [add_block]; exact Kd.own_blk (Kd.R_away HO_3.out (fun _ hk => hk.2.2))) | (show (Addr.add _ _).block ≠ _; rw [add_block]; exact Kd.own_blk (Kd.R_away HO_3.out (fun _ hk => hk.2.2))) | (dsimp only; exact Kd.own_blk (Kd.R_away HO_3.out (fun _ hk => hk.2.2)))) _).trans (((cell_far (p := ⟨gb365, _, none⟩) (by first | exact Kd.own_blk (Kd.R_away HO_3.out (fun _ hk => hk.2.2)) | (rw [add_block]; exact Kd.own_blk (Kd.R_away HO_3.out (fun _ hk => hk.2.2))) | (show (Addr.add _ _).block ≠ _; rw [add_block]; exact Kd.own_blk (Kd.R_away HO_3.out (fun _ hk => hk.2.2))) | (dsimp only; exact Kd.own_blk (Kd.R_away HO_3.out (fun _ hk => hk.2.2)))) _).trans (hHeld.1)))))))), ((cell_far (p := ⟨gb365, _, none⟩) (by first | exact Kd.own_blk (Kd.R_away HO_3.out (fun _ hk => hk.2.2)) | (rw [add_block]; exact Kd.own_blk (Kd.R_away HO_3.out (fun _ hk => hk.2.2))) | (show (Addr.add _ _).block ≠ _; rw [add_block]; exact Kd.own_blk (Kd.R_away HO_3.out (fun _ hk => hk.2.2))) | (dsimp only; exact Kd.own_blk (Kd.R_away HO_3.out (fun _ hk => hk.2.2)))) _).trans (((cell_far (p := ⟨gb365, _, none⟩) (by first | exact Kd.own_blk (Kd.R_away HO_3.out (fun _ hk => hk.2.2)) | (rw [add_block]; exact Kd.own_blk (Kd.R_away HO_3.out (fun _ hk => hk.2.2))) | (show (Addr.add _ _).block ≠ _; rw [add_block]; exact Kd.own_blk (Kd.R_away HO_3.out (fun _ hk => hk.2.2))) | (dsimp only; exact Kd.own_blk (Kd.R_away HO_3.out (fun _ hk => hk.2.2)))) _).trans (((cell_far (p := ⟨gb365, _, none⟩) (by first | exact Kd.own_blk (Kd.R_away HO_3.out (fun _ hk => hk.2.2)) | (rw [add_block]; exact Kd.own_blk (Kd.R_away HO_3.out (fun _ hk => hk.2.2))) | (show (Addr.add _ _).block ≠ _; rw [add_block]; exact Kd.own_blk (Kd.R_away HO_3.out (fun _ hk => hk.2.2))) | (dsimp only; exact Kd.own_blk (Kd.R_away HO_3.out (fun _ hk => hk.2.2)))) _).trans (((cell_far (p := ⟨gb365, _, none⟩) (by first | exact Kd.own_blk (Kd.R_away HO_3.out (fun _ hk => hk.2.2)) | (rw [add_block]; exact Kd.own_blk (Kd.R_away HO_3.out (fun _ hk => hk.2.2))) | (show (Addr.add _ _).block ≠ _; rw [add_block]; exact Kd.own_blk (Kd.R_away HO_3.out (fun _ hk => hk.2.2))) | (dsimp only; exact Kd.own_blk (Kd.R_away HO_3.out (fun _ hk => hk.2.2)))) _).trans (hHeld.2.1)))))))), ((cell_far (p := ⟨gb365, _, none⟩) (by first | exact Kd.own_blk (Kd.R_away HO_3.out (fun _ hk => hk.2.2)) | (rw [add_block]; exact Kd.own_blk (Kd.R_away HO_3.out (fun _ hk => hk.2.2))) | (show (Addr.add _ _).block ≠ _; rw [add_block]; exact Kd.own_blk (Kd.R_away HO_3.out (fun _ hk => hk.2.2))) | (dsimp only; exact Kd.own_blk (Kd.R_away HO_3.out (fun _ hk => hk.2.2)))) _).trans (((cell_far (p := ⟨gb365, _, none⟩) (by first | exact Kd.own_blk (Kd.R_away HO_3.out (fun _ hk => hk.2.2)) | (rw [add_block]; exact Kd.own_blk (Kd.R_away HO_3.out (fun _ hk => hk.2.2))) | (show (Addr.add _ _).block ≠ _; rw [add_block]; exact Kd.own_blk (Kd.R_away HO_3.out (fun _ hk => hk.2.2))) | (dsimp only; exact Kd.own_blk (Kd.R_away HO_3.out (fun _ hk => hk.2.2)))) _).trans (((cell_far (p := ⟨gb365, _, none⟩) (by first | exact Kd.own_blk (Kd.R_away HO_3.out (fun _ hk => hk.2.2)) | (rw [add_block]; exact Kd.own_blk (Kd.R_away HO_3.out (fun _ hk => hk.2.2))) | (show (Addr.add _ _).block ≠ _; rw [add_block]; exact Kd.own_blk (Kd.R_away HO_3.out (fun _ hk => hk.2.2))) | (dsimp only; exact Kd.own_blk (Kd.R_away HO_3.out (fun _ hk => hk.2.2)))) _).trans (((cell_far (p := ⟨gb365, _, none⟩) (by first | exact Kd.own_blk (Kd.R_away HO_3.out (fun _ hk => hk.2.2)) | (rw [add_block]; exact Kd.own_blk (Kd.R_away HO_3.out (fun _ hk => hk.2.2))) | (show (Addr.add _ _).block ≠ _; rw [add_block]; exact Kd.own_blk (Kd.R_away HO_3.out (fun _ hk => hk.2.2))) | (dsimp only; exact Kd.own_blk (Kd.R_away HO_3.out (fun _ hk => hk.2.2)))) _).trans (hHeld.2.2.1)))))))), ((cell_far (p := ⟨gb365, _, none⟩) (by first | exact Kd.own_blk (Kd.R_away HO_3.out (fun _ hk => hk.2.2)) | (rw [add_block]; exact Kd.own_blk (Kd.R_away HO_3.out (fun _ hk => hk.2.2))) | (show (Addr.add _ _).block ≠ _; rw [add_block]; exact Kd.own_blk (Kd.R_away HO_3.out (fun _ hk => hk.2.2))) | (dsimp only; exact Kd.own_blk (Kd.R_away HO_3.out (fun _ hk => hk.2.2)))) _).trans (((cell_far (p := ⟨gb365, _, none⟩) (by first | exact Kd.own_blk (Kd.R_away HO_3.out (fun _ hk => hk.2.2)) | (rw [add_block]; exact Kd.own_blk (Kd.R_away HO_3.out (fun _ hk => hk.2.2))) | (show (Addr.add _ _).block ≠ _; rw [add_block]; exact Kd.own_blk (Kd.R_away HO_3.out (fun _ hk => hk.2.2))) | (dsimp only; exact Kd.own_blk (Kd.R_away HO_3.out (fun _ hk => hk.2.2)))) _).trans (((cell_far (p := ⟨gb365, _, none⟩) (by first | exact Kd.own_blk (Kd.R_away HO_3.out (fun _ hk => hk.2.2)) | (rw [add_block]; exact Kd.own_blk (Kd.R_away HO_3.out (fun _ hk => hk.2.2))) | (show (Addr.add _ _).block ≠ _; rw [add_block]; exact Kd.own_blk (Kd.R_away HO_3.out (fun _ hk => hk.2.2))) | (dsimp only; exact Kd.own_blk (Kd.R_away HO_3.out (fun _ hk => hk.2.2)))) _).trans (((cell_far (p := ⟨gb365, _, none⟩) (by first | exact Kd.own_blk (Kd.R_away HO_3.out (fun _ hk => hk.2.2)) | (rw [add_block]; exact Kd.own_blk (Kd.R_away HO_3.out (fun _ hk => hk.2.2))) | (show (Addr.add _ _).block ≠ _; rw [add_block]; exact Kd.own_blk (Kd.R_away HO_3.out (fun _ hk => hk.2.2))) | (dsimp only; exact Kd.own_blk (Kd.R_away HO_3.out (fun _ hk => hk.2.2)))) _).trans (hHeld.2.2.2.1)))))))), ((cell_far (p := ⟨gb365, _, none⟩) (by first | exact Kd.own_blk (Kd.R_away HO_6.out (fun _ hk => hk.2.2)) | (rw [add_block]; exact Kd.own_blk (Kd.R_away HO_6.out (fun _ hk => hk.2.2))) | (show (Addr.add _ _).block ≠ _; rw [add_block]; exact Kd.own_blk (Kd.R_away HO_6.out (fun _ hk => hk.2.2))) | (dsimp only; exact Kd.own_blk (Kd.R_away HO_6.out (fun _ hk => hk.2.2)))) _).trans (((cell_far (p := ⟨gb365, _, none⟩) (by first | exact Kd.own_blk (Kd.R_away HO_6.out (fun _ hk => hk.2.2)) | (rw [add_block]; exact Kd.own_blk (Kd.R_away HO_6.out (fun _ hk => hk.2.2))) | (show (Addr.add _ _).block ≠ _; rw [add_block]; exact Kd.own_blk (Kd.R_away HO_6.out (fun _ hk => hk.2.2))) | (dsimp only; exact Kd.own_blk (Kd.R_away HO_6.out (fun _ hk => hk.2.2)))) _).trans (((cell_far (p := ⟨gb365, _, none⟩) (by first | exact Kd.own_blk (Kd.R_away HO_6.out (fun _ hk => hk.2.2)) | (rw [add_block]; exact Kd.own_blk (Kd.R_away HO_6.out (fun _ hk => hk.2.2))) | (show (Addr.add _ _).block ≠ _; rw [add_block]; exact Kd.own_blk (Kd.R_away HO_6.out (fun _ hk => hk.2.2))) | (dsimp only; exact Kd.own_blk (Kd.R_away HO_6.out (fun _ hk => hk.2.2)))) _).trans (((cell_far (p := ⟨gb365, _, none⟩) (by first | exact Kd.own_blk (Kd.R_away HO_6.out (fun _ hk => hk.2.2)) | (rw [add_block]; exact Kd.own_blk (Kd.R_away HO_6.out (fun _ hk => hk.2.2))) | (show (Addr.add _ _).block ≠ _; rw [add_block]; exact Kd.own_blk (Kd.R_away HO_6.out (fun _ hk => hk.2.2))) | (dsimp only; exact Kd.own_blk (Kd.R_away HO_6.out (fun _ hk => hk.2.2)))) _).trans (hHeld.2.2.2.2.1)))))))), ((cell_far (p := ⟨gb365, _, none⟩) (by first | exact Kd.own_blk (Kd.R_away HO_6.out (fun _ hk => hk.2.2)) | (rw [add_block]; exact Kd.own_blk (Kd.R_away HO_6.out (fun _ hk => hk.2.2))) | (show (Addr.add _ _).block ≠ _; rw [add_block]; exact Kd.own_blk (Kd.R_away HO_6.out (fun _ hk => hk.2.2))) | (dsimp only; exact Kd.own_blk (Kd.R_away HO_6.out (fun _ hk => hk.2.2)))) _).trans (((cell_far (p := ⟨gb365, _, none⟩) (by first | exact Kd.own_blk (Kd.R_away HO_6.out (fun _ hk => hk.2.2)) | (rw [add_block]; exact Kd.own_blk (Kd.R_away HO_6.out (fun _ hk => hk.2.2))) | (show (Addr.add _ _).block ≠ _; rw [add_block]; exact Kd.own_blk (Kd.R_away HO_6.out (fun _ hk => hk.2.2))) | (dsimp only; exact Kd.own_blk (Kd.R_away HO_6.out (fun _ hk => hk.2.2)))) _).trans (((cell_far (p := ⟨gb365, _, none⟩) (by first | exact Kd.own_blk (Kd.R_away HO_6.out (fun _ hk => hk.2.2)) | (rw [add_block]; exact Kd.own_blk (Kd.R_away HO_6.out (fun _ hk => hk.2.2))) | (show (Addr.add _ _).block ≠ _; rw [add_block]; exact Kd.own_blk (Kd.R_away HO_6.out (fun _ hk => hk.2.2))) | (dsimp only; exact Kd.own_blk (Kd.R_away HO_6.out (fun _ hk => hk.2.2)))) _).trans (((cell_far (p := ⟨gb365, _, none⟩) (by first | exact Kd.own_blk (Kd.R_away HO_6.out (fun _ hk => hk.2.2)) | (rw [add_block]; exact Kd.own_blk (Kd.R_away HO_6.out (fun _ hk => hk.2.2))) | (show (Addr.add _ _).block ≠ _; rw [add_block]; exact Kd.own_blk (Kd.R_away HO_6.out (fun _ hk => hk.2.2))) | (dsimp only; exact Kd.own_blk (Kd.R_away HO_6.out (fun _ hk => hk.2.2)))) _).trans (hHeld.2.2.2.2.2.1)))))))), ((cell_far (p := ⟨gb365, _, none⟩) (by first | exact Kd.own_blk (Kd.R_away HO_6.out (fun _ hk => hk.2.2)) | (rw [add_block]; exact Kd.own_blk (Kd.R_away HO_6.out (fun _ hk => hk.2.2))) | (show (Addr.add _ _).block ≠ _; rw [add_block]; exact Kd.own_blk (Kd.R_away HO_6.out (fun _ hk => hk.2.2))) | (dsimp only; exact Kd.own_blk (Kd.R_away HO_6.out (fun _ hk => hk.2.2)))) _).trans (((cell_far (p := ⟨gb365, _, none⟩) (by first | exact Kd.own_blk (Kd.R_away HO_6.out (fun _ hk => hk.2.2)) | (rw [add_block]; exact Kd.own_blk (Kd.R_away HO_6.out (fun _ hk => hk.2.2))) | (show (Addr.add _ _).block ≠ _; rw [add_block]; exact Kd.own_blk (Kd.R_away HO_6.out (fun _ hk => hk.2.2))) | (dsimp only; exact Kd.own_blk (Kd.R_away HO_6.out (fun _ hk => hk.2.2)))) _).trans (((cell_far (p := ⟨gb365, _, none⟩) (by first | exact Kd.own_blk (Kd.R_away HO_6.out (fun _ hk => hk.2.2)) | (rw [add_block]; exact Kd.own_blk (Kd.R_away HO_6.out (fun _ hk => hk.2.2))) | (show (Addr.add _ _).block ≠ _; rw [add_block]; exact Kd.own_blk (Kd.R_away HO_6.out (fun _ hk => hk.2.2))) | (dsimp only; exact Kd.own_blk (Kd.R_away HO_6.out (fun _ hk => hk.2.2)))) _).trans (((cell_far (p := ⟨gb365, _, none⟩) (by first | exact Kd.own_blk (Kd.R_away HO_6.out (fun _ hk => hk.2.2)) | (rw [add_block]; exact Kd.own_blk (Kd.R_away HO_6.out (fun _ hk => hk.2.2))) | (show (Addr.add _ _).block ≠ _; rw [add_block]; exact Kd.own_blk (Kd.R_away HO_6.out (fun _ hk => hk.2.2))) | (dsimp only; exact Kd.own_blk (Kd.R_away HO_6.out (fun _ hk => hk.2.2)))) _).trans (hHeld.2.2.2.2.2.2.1)))))))), ((cell_far (p := ⟨gb365, _, none⟩) (by first | exact Kd.own_blk (Kd.R_away HO_6.out (fun _ hk => hk.2.2)) | (rw [add_block]; exact Kd.own_blk (Kd.R_away HO_6.out (fun _ hk => hk.2.2))) | (show (Addr.add _ _).block ≠ _; rw [add_block]; exact Kd.own_blk (Kd.R_away HO_6.out (fun _ hk => hk.2.2))) | (dsimp only; exact Kd.own_blk (Kd.R_away HO_6.out (fun _ hk => hk.2.2)))) _).trans (((cell_far (p := ⟨gb365, _, none⟩) (by first | exact Kd.own_blk (Kd.R_away HO_6.out (fun _ hk => hk.2.2)) | (rw [add_block]; exact Kd.own_blk (Kd.R_away HO_6.out (fun _ hk => hk.2.2))) | (show (Addr.add _ _).block ≠ _; rw [add_block]; exact Kd.own_blk (Kd.R_away HO_6.out (fun _ hk => hk.2.2))) | (dsimp only; exact Kd.own_blk (Kd.R_away HO_6.out (fun _ hk => hk.2.2)))) _).trans (((cell_far (p := ⟨gb365, _, none⟩) (by first | exact Kd.own_blk (Kd.R_away HO_6.out (fun _ hk => hk.2.2)) | (rw [add_block]; exact Kd.own_blk (Kd.R_away HO_6.out (fun _ hk => hk.2.2))) | (show (Addr.add _ _).block ≠ _; rw [add_block]; exact Kd.own_blk (Kd.R_away HO_6.out (fun _ hk => hk.2.2))) | (dsimp only; exact Kd.own_blk (Kd.R_away HO_6.out (fun _ hk => hk.2.2)))) _).trans (((cell_far (p := ⟨gb365, _, none⟩) (by first | exact Kd.own_blk (Kd.R_away HO_6.out (fun _ hk => hk.2.2)) | (rw [add_block]; exact Kd.own_blk (Kd.R_away HO_6.out (fun _ hk => hk.2.2))) | (show (Addr.add _ _).block ≠ _; rw [add_block]; exact Kd.own_blk (Kd.R_away HO_6.out (fun _ hk => hk.2.2))) | (dsimp only; exact Kd.own_blk (Kd.R_away HO_6.out (fun _ hk => hk.2.2)))) _).trans (hHeld.2.2.2.2.2.2.2))))))))⟩ (fun hHeld => ?_)
                                clear hK K
                                refine done_ (done_of HT_.out (by kernel_rfl)) ?_
                                obtain ⟨w38, hE0, ho0, hn0⟩ := box4 BK364.out rfl (.int .i64 (rd_T32 t349 x47_3).f0) (.string (rd_T32 t349 x47_3).f1) (.int .i64 (rd_T32 t349 x47_3).f2) (.int .i64 (rd_T32 t349 x47_3).f3)
                                rw [hE0]
                                clear hE0
                                have m0_ := Aside0.mk (R_only HO_3.out ho0 (fun _ hk => hk.2.1))
                                have m1_ := Aside0.mk (R_only HO_6.out ho0 (fun _ hk => hk.2.1))
                                have m2_ := Aside0.mk (Only.below HB.out ho0 GE364.out)
                                have m3_ := Aside0.mk ((ho0.block gb365 (NB365_364.out)).trans BK365.out)
                                have m4_ := Aside0.mk hn0
                                clear HO_3 HO_6 HB BK364 BK365 ho0 hn0
                                have HO_3 := m0_
                                have HO_6 := m1_
                                have HB := m2_
                                have BK365 := m3_
                                have BK364 := m4_
                                clear m0_ m1_ m2_ m3_ m4_
                                obtain ⟨w39, hE1, ho1, hn1⟩ := box4 BK365.out rfl (.int .i64 (rd_T32 t357 x47_3).f0) (.string (rd_T32 t357 x47_3).f1) (.int .i64 (rd_T32 t357 x47_3).f2) (.int .i64 (rd_T32 t357 x47_3).f3)
                                rw [hE1]
                                clear hE1
                                have m0_ := Aside0.mk (R_only HO_3.out ho1 (fun _ hk => hk.2.2))
                                have m1_ := Aside0.mk (R_only HO_6.out ho1 (fun _ hk => hk.2.2))
                                have m2_ := Aside0.mk (Only.below HB.out ho1 GE365.out)
                                have m3_ := Aside0.mk ((ho1.block gb364 (NB364_365.out)).trans BK364.out)
                                have m4_ := Aside0.mk hn1
                                clear HO_3 HO_6 HB BK364 BK365 ho1 hn1
                                have HO_3 := m0_
                                have HO_6 := m1_
                                have HB := m2_
                                have BK364 := m3_
                                have BK365 := m4_
                                clear m0_ m1_ m2_ m3_ m4_
                                go_wp2_with (first
                                  | ((with_reducible refine gate_store (t := 3) (p := 58) (v := .const (.int .i64 0)) rfl ?_); refine storeAt (g := gb364) (x := 0) rfl rfl rfl rfl rfl BK364.out ?_; intro w40 ho4 hn4; have m0_ := Aside0.mk (R_only HO_3.out ho4 (fun _ hk => hk.2.1)); have m1_ := Aside0.mk (R_only HO_6.out ho4 (fun _ hk => hk.2.1)); have m2_ := Aside0.mk (Only.below HB.out ho4 GE364.out); have m3_ := Aside0.mk ((ho4.block gb365 (NB365_364.out)).trans BK365.out); have m4_ := Aside0.mk hn4; clear HO_3 HO_6 HB BK364 BK365 ho4 hn4; have HO_3 := m0_; have HO_6 := m1_; have HB := m2_; have BK365 := m3_; have BK364 := m4_; clear m0_ m1_ m2_ m3_ m4_)
                                  | ((with_reducible refine gate_store (t := 3) (p := 59) (v := .const (.int .i64 0)) rfl ?_); refine storeAt (g := gb365) (x := 0) rfl rfl rfl rfl rfl BK365.out ?_; intro w41 ho4 hn4; have m0_ := Aside0.mk (R_only HO_3.out ho4 (fun _ hk => hk.2.2)); have m1_ := Aside0.mk (R_only HO_6.out ho4 (fun _ hk => hk.2.2)); have m2_ := Aside0.mk (Only.below HB.out ho4 GE365.out); have m3_ := Aside0.mk ((ho4.block gb364 (NB364_365.out)).trans BK364.out); have m4_ := Aside0.mk hn4; clear HO_3 HO_6 HB BK364 BK365 ho4 hn4; have HO_3 := m0_; have HO_6 := m1_; have HB := m2_; have BK364 := m3_; have BK365 := m4_; clear m0_ m1_ m2_ m3_ m4_; have hc364_0 := (blk_cell BK364.out 0).trans rfl; simp only [List.getElem?_toArray, List.getElem?_cons_zero, List.getElem?_cons_succ] at hc364_0; have hc364_1 := (blk_cell BK364.out 1).trans rfl; simp only [List.getElem?_toArray, List.getElem?_cons_zero, List.getElem?_cons_succ] at hc364_1; have hc364_2 := (blk_cell BK364.out 2).trans rfl; simp only [List.getElem?_toArray, List.getElem?_cons_zero, List.getElem?_cons_succ] at hc364_2; have hc364_3 := (blk_cell BK364.out 3).trans rfl; simp only [List.getElem?_toArray, List.getElem?_cons_zero, List.getElem?_cons_succ] at hc364_3; have hc365_0 := (blk_cell BK365.out 0).trans rfl; simp only [List.getElem?_toArray, List.getElem?_cons_zero, List.getElem?_cons_succ] at hc365_0; have hc365_1 := (blk_cell BK365.out 1).trans rfl; simp only [List.getElem?_toArray, List.getElem?_cons_zero, List.getElem?_cons_succ] at hc365_1; have hc365_2 := (blk_cell BK365.out 2).trans rfl; simp only [List.getElem?_toArray, List.getElem?_cons_zero, List.getElem?_cons_succ] at hc365_2; have hc365_3 := (blk_cell BK365.out 3).trans rfl; simp only [List.getElem?_toArray, List.getElem?_cons_zero, List.getElem?_cons_succ] at hc365_3))
                                repeat (go_quiet (fail); try go_wp2)
                                go_roundg k3
                                case measure => have := HJ4.out; have := HJ20.out; have := HK3.out; omega
                                case rel => exact ⟨(wrap64 (x47_3 + 1)), (by first | rfl | (simp; done) | (simp [*]; done)), H', ⟨by have := HJ4.out; have := HJ20.out; have := HK3.out; omega⟩, ⟨by (with_reducible repeat (first | apply Kd.R_alloc | apply Kd.R_drewN | apply Kd.R_drew)); exact Kd.R_mono HO_3.out (fun _ hk => hk.1)⟩, ⟨by (with_reducible repeat (first | apply Kd.R_alloc | apply Kd.R_drewN | apply Kd.R_drew)); exact Kd.R_mono HO_6.out (fun _ hk => hk.1)⟩, ⟨by repeat (first | (with_reducible first | exact HB.out | apply below_alloc | apply pw_below_drewN | apply below_drew1) | exact HB.out)⟩⟩
                            · rw [if_neg c31] at H
                              exact absurd H (by simp)
                          · rw [if_neg c30] at H
                            exact absurd H (by simp)
                        · rw [if_neg c29] at H
                          exact absurd H (by simp)
                      · rw [if_neg c28] at H
                        have c28b0 : decide (x47_3 < (t349.length : Int)) = false := decide_eq_false c28
                        clear c28
                        obtain rfl := Option.some.inj H
                        go_wp2
                        go_ret
                        exact ⟨by first | rfl | (simp [errW_none, errW_some] <;> rfl) | (simp [*, errW_none, errW_some] <;> rfl), by repeat (first | (with_reducible first | exact HB.out | apply below_alloc | apply pw_below_drewN | apply below_drew1) | exact HB.out)⟩
  · replace c3 := Bool.eq_false_iff.mpr c3
    subst c3
    have H1 : (none) = some r := by rw [if_neg (show ¬ (false = true) by decide)] at H; exact H
    clear H
    have H := H1
    clear H1
    exact absurd H (by simp)
end Go.Proofs.YtdjcechogbcdnaaDoor.XL
namespace Go.Proofs.YtdjcechogbcdnaaDoor.XL
open Go.RowKit Go.Proofs.YtdjcechogbcdnaaDoorW.PrintWords Go.Proofs.YtdjcechogbcdnaaDoorW.PrintLast Go.Proofs.YtdjcechogbcdnaaDoorW.PrintMore
set_option linter.unusedVariables false
set_option linter.unusedSimpArgs false
theorem bare_at {us ts : List S32} (h : us.map bare = ts.map bare) (i : Nat) (h1 : i < us.length) (h2 : i < ts.length) : us[i].f0 = ts[i].f0 ∧ us[i].f1 = ts[i].f1 ∧ us[i].f2 = ts[i].f2 := by
  have e : (us.map bare)[i]'(by simpa using h1) = (ts.map bare)[i]'(by simpa using h2) := by simp only [h]
  rw [List.getElem_map, List.getElem_map] at e
  unfold bare at e
  injection e with e0 e1 e2
  exact ⟨e0, e1, e2⟩
theorem back_loop (ts us : List S32) (hts : ts.length ≤ 8001) (hlen : us.length = ts.length) (hb : us.map bare = ts.map bare) : ∀ d i : Nat, i + d = ts.length → Ev (fun k => switchyardlaw07_LexBack.l0 k ts us (ts.length : Int) (i : Int)) true := by
  intro d
  induction d with
  | zero =>
    intro i hi
    exact Ev.step (fun k => by simp only [switchyardlaw07_LexBack.l0]; rfl) (Ev.neg (by omega) (Ev.now _))
  | succ d ih =>
    intro i hi
    have h1 : i < ts.length := by omega
    have h2 : i < us.length := by omega
    obtain ⟨e0, e1, e2⟩ := bare_at hb i h2 h1
    refine Ev.step (fun k => by simp only [switchyardlaw07_LexBack.l0]; rfl) ?_
    rw [rdT_at _ _ h1, rdT_at _ _ h2, e0, e1, e2, wr_succ h1 (by omega)]
    exact Ev.pos (by omega) (Ev.pos (by omega) (Ev.pos (by omega) (Ev.pos (by omega) (Ev.neg (by simp) (ih (i + 1) (by omega))))))
theorem lexBack_ev (a0 : ByteArray) : Ev (fun k => switchyardlaw07_LexBack.f k a0) true := by
  rw [← mk_data a0]
  generalize a0.data.toList = l
  have other : ∀ ts : List S32, Ev (fun k => switchyardlaw07_LexBack.j0 k ts true) true := by
    intro ts
    refine Ev.step (fun k => by simp only [switchyardlaw07_LexBack.j0]; rfl) ?_
    exact Ev.pos (by trivial) (Ev.bind awake_ev (Ev.now _))
  unfold switchyardlaw07_LexBack.f
  refine Ev.bind awake_ev (Ev.pos rfl ?_)
  by_cases h8 : l.length ≤ 8000
  · refine Ev.bind (scan_ev l h8) (Ev.bind awake_ev (Ev.pos rfl ?_))
    rw [scanW_zero]
    cases hs : scanW 0 l with
    | inr e => exact other _
    | inl ts =>
      obtain ⟨ws, hne, hf, hl, hb⟩ := scanW_back l.length 0 l (Nat.le_refl _) ts hs
      have hts : ts.length ≤ l.length + 1 := scan_len _ _ _ _ hs
      have hlw := hf.len
      have hj := join_len [32] l.length ws hl
      have hj2 : (Lib.join ws [32]).length ≤ 8001 * 8001 := Nat.le_trans hj (Nat.mul_le_mul (by omega) (by simp; omega))
      have hJ := join_ev ts ws hlw (by omega) (fun i h => hf.get i h (by omega)) (by omega) ts.length 0 (by omega)
      obtain ⟨us, hu, he⟩ := hb 0
      have hul : us.length = ts.length := by have := congrArg List.length he; simpa using this
      show Ev (fun k => switchyardlaw07_LexBack.j0 k ([] ++ ts) (0 != 0)) true
      rw [List.nil_append, show ((0 : Int) != 0) = false from rfl]
      refine Ev.step (fun k => by simp only [switchyardlaw07_LexBack.j0]; rfl) ?_
      refine Ev.neg (by simp) (Ev.bind (a := mk (Lib.join ws [32])) hJ ?_)
      by_cases hJ8 : (Lib.join ws [32]).length ≤ 8000
      · have q := scan_ev (Lib.join ws [32]) hJ8
        rw [scanW_zero, hu] at q
        refine Ev.bind q (Ev.neg (by simp [scanRes]) (Ev.pos rfl ?_))
        simp only [scanRes, List.nil_append]
        rw [show ((us.length : Int) != (ts.length : Int)) = false by rw [hul]; simp]
        refine Ev.step (fun k => by simp only [switchyardlaw07_LexBack.j1]; rfl) (Ev.neg (by simp) ?_)
        exact back_loop ts us (by omega) hul he ts.length 0 (by omega)
      · exact Ev.bind (scan_long _ hJ8) (Ev.pos rfl (Ev.now _))
  · exact Ev.bind (scan_long l h8) (Ev.bind awake_ev (Ev.pos rfl (other _)))
end Go.Proofs.YtdjcechogbcdnaaDoor.XL
namespace Go.Proofs.YtdjcechogbcdnaaDoor.XL
open Go.RowKit Go.Proofs.YtdjcechogbcdnaaDoorW.PrintWords Go.Proofs.YtdjcechogbcdnaaDoorW.PrintLast Go.Proofs.YtdjcechogbcdnaaDoorW.PrintMore
set_option linter.unusedVariables false in
theorem back_walk (a0 : ByteArray) (W : World) (hG0 : a0.size ≤ 140737488351232) (hT : Tabs W) :
    Calls Tryd.prog 6 #[.string a0] W fun e w' => e = .returned (.bool true) ∧ Below W.heap.size W w' := by
  obtain ⟨k, hk⟩ := Ev.rounds (lexBack_ev a0)
  exact switchyardlaw07_LexBack.calls k a0 true W hk hT
end Go.Proofs.YtdjcechogbcdnaaDoor.XL
namespace Go.Proofs.YtdjcechogbcdnaaDoor.Open
open Go.RowKit Go.Proofs.YtdjcechogbcdnaaDoorW.PrintWords
set_option linter.unusedVariables false
/-- Whatever reads as data of type t, with rounds up to n and all its weights within the reach, is a value of the kind k that meets G. -/
def Opens {α : Type} (n : Nat) (P : Program) (t : TypeId) (k : Kd α) (G : α → Prop) : Prop :=
  ∀ (H : Type) (enc : TypeId × Value → H) (w : World) (sp : Nat → Bool) (held : Bool) (fuel : Nat) (cs : List Value) (x : DataW H × List MemPlace), fuel ≤ n →
    DataW.trod enc P w 0 sp held fuel t cs = some x → (∀ b ∈ x.1.weights P t, b ≤ reachBytes) → ∃ v, k.K w v cs ∧ G v
theorem Opens.zero {α : Type} {P : Program} {t : TypeId} {k : Kd α} {G : α → Prop} : Opens 0 P t k G := by
  intro H enc w sp held fuel cs x hf ht hw
  obtain rfl : fuel = 0 := by omega
  simp [DataW.trod] at ht
/-- Fields in line, from the offset on. -/
def OpensF {α : Type} (n : Nat) (P : Program) (off : Nat) (fs : List Field) (k : Kd α) (G : α → Prop) : Prop :=
  ∀ (H : Type) (enc : TypeId × Value → H) (w : World) (sp : Nat → Bool) (held : Bool) (fuel : Nat) (cs : List Value) (xs : List (DataW H × List MemPlace)), fuel ≤ n → cs.length = off + k.sz → xs.length = fs.length →
    (∀ (i : Nat) (f : Field), fs[i]? = some f → DataW.trod enc P w 0 sp held fuel f.type ((cs.drop f.offset).take (P.cellsOf f.type)) = xs[i]?) →
    (∀ b ∈ DataW.weightsEach P (fs.map Field.type) (xs.map (·.1)), b ≤ reachBytes) → ∃ v, k.K w v (cs.drop off) ∧ G v
theorem OpensF.last {α : Type} {n : Nat} {P : Program} {off : Nat} {f : Field} {k : Kd α} {G : α → Prop} (ho : f.offset = off) (hc : P.cellsOf f.type = k.sz) (h : Opens n P f.type k G) : OpensF n P off [f] k G := by
  intro H enc w sp held fuel cs xs hf hl hxl hall hw
  match xs, hxl with
  | [x], _ =>
    have h1 := hall 0 f rfl
    rw [ho, hc, List.take_of_length_le (by rw [List.length_drop]; omega)] at h1
    exact h H enc w sp held fuel _ x hf h1 (fun b hb => hw b (by simpa [DataW.weightsEach] using hb))
theorem OpensF.cons {α β : Type} {n : Nat} {P : Program} {off : Nat} {f : Field} {fs : List Field} {k : Kd α} {k' : Kd β} {G : α → Prop} {G' : β → Prop} (ho : f.offset = off) (hc : P.cellsOf f.type = k.sz)
    (h : Opens n P f.type k G) (h' : OpensF n P (off + k.sz) fs k' G') : OpensF n P off (f :: fs) (Kd.pair k k') (fun v => G v.1 ∧ G' v.2) := by
  intro H enc w sp held fuel cs xs hf hl hxl hall hw
  match xs, hxl with
  | x :: xs, hxl =>
    have hl' : cs.length = off + (k.sz + k'.sz) := hl
    have h1 := hall 0 f rfl
    rw [ho, hc] at h1
    obtain ⟨v, hk, hg⟩ := h H enc w sp held fuel _ x hf h1 (fun b hb => hw b (by simp only [List.map_cons, DataW.weightsEach, List.mem_append]; exact Or.inl hb))
    obtain ⟨v', hk', hg'⟩ := h' H enc w sp held fuel cs xs hf (by omega) (by simpa using hxl) (fun i g hi => by simpa using hall (i + 1) g (by simpa using hi)) (fun b hb => hw b (by simp only [List.map_cons, DataW.weightsEach, List.mem_append]; exact Or.inr hb))
    refine ⟨(v, v'), ⟨_, _, ?_, hk, hk'⟩, hg, hg'⟩
    rw [← List.drop_drop]
    exact (List.take_append_drop _ _).symm
/-- A kind told otherwise. -/
theorem Opens.of {α β : Type} {n : Nat} {P : Program} {t : TypeId} {k : Kd α} {k' : Kd β} {G : α → Prop} {G' : β → Prop} (h : Opens n P t k G) (f : α → β) (hk : ∀ w v cs, k.K w v cs → k'.K w (f v) cs) (hg : ∀ v, G v → G' (f v)) : Opens n P t k' G' := by
  intro H enc w sp held fuel cs x hf ht hw
  obtain ⟨v, hkv, hv⟩ := h H enc w sp held fuel cs x hf ht hw
  exact ⟨f v, hk _ _ _ hkv, hg v hv⟩
theorem tab_of_reads {P : Program} {W : World} {l : List (String × DataW Unit)} {name : String} {k : IntKind} {zs : List Int} {g : Nat} {t e : TypeId} {n : Nat} (hp : (l.all fun x => x.2.handleName?.isNone) = true) (h : laidMetH P l W) (hm : (name, Lib.tabData k zs) ∈ l)
    (hg : P.globalNamed name = some g) (hty : (P.globals[g]?).map (·.type) = some t) (ht : P.underlying t = some (.array n e)) (he : P.underlying e = some (.int k)) (hce : P.cellsOf e = 1) (hct : P.cellsOf t = n) : Lib.TabIs P W name k zs := by
  rw [MakeChecks.laidMetH_plain _ _ _ hp] at h
  obtain ⟨g', t', cs, fuel, p, hg', ht', hvar, hd⟩ := Lib.laidMet.reads h hm
  obtain rfl := Option.some.inj (hg.symm.trans hg')
  obtain rfl := Option.some.inj (hty.symm.trans ht')
  unfold Lib.TabIs
  rw [hvar, ← Lib.cells_of_tab ht he hce hct hd]
theorem arg_weights {H : Type} {P : Program} {ts : List TypeId} {ds : List (DataW H)} (hsz : (DataW.weightsEach P ts ds).all (· ≤ reachBytes) = true) {j : Nat} {t : TypeId} {d : DataW H} (ht : ts[j]? = some t) (hd : ds[j]? = some d) : ∀ b ∈ d.weights P t, b ≤ reachBytes := by
  intro b hb
  simpa using List.all_eq_true.1 hsz _ (DataW.weights_mem_each ht hd b hb)
end Go.Proofs.YtdjcechogbcdnaaDoor.Open
namespace Go.Proofs.YtdjcechogbcdnaaDoor.XL
open Go.RowKit Go.Proofs.YtdjcechogbcdnaaDoorW.PrintWords Go.Proofs.YtdjcechogbcdnaaDoor.Open
theorem cells_of_strs {H : Type} {enc : TypeId × Value → H} {P : Program} {w : World} {base : Nat} {sp : Nat → Bool} {held : Bool} {fuel : Nat} {t e : TypeId} {n : Nat} {cs : List Value} {zs : List (List UInt8)} {p : List MemPlace}
    (ht : P.underlying t = some (.array n e)) (he : P.underlying e = some .string) (hce : P.cellsOf e = 1) (hct : P.cellsOf t = n)
    (h : DataW.trod enc P w base sp held fuel t cs = some (.agg (zs.map fun z => .lit (.string z)), p)) : cs = zs.map fun z => Value.string ⟨z.toArray⟩ := by
  cases fuel with
  | zero => simp [DataW.trod] at h
  | succ fuel =>
    simp only [DataW.trod, ht, hce, hct, Nat.mul_one] at h
    split at h
    · rename_i hl
      obtain ⟨xs, hm, hx⟩ := Option.map_eq_some_iff.1 h
      have hxs : xs.map (·.1) = zs.map fun z => (DataW.lit (.string z) : DataW H) := by
        have := congrArg Prod.fst hx
        simpa using this
      have hxl : xs.length = n := by simpa using Lib.mapM_length hm
      have hzl : zs.length = n := by
        have := congrArg List.length hxs
        simp at this
        omega
      apply List.ext_getElem?
      intro i
      by_cases hi : i < n
      · obtain ⟨b, hb, hf⟩ := Lib.mapM_at hm i i (by simp [hi])
        obtain ⟨s, hc, hb2, _⟩ := DataW.trod_string he hf
        have h1 : cs[i]? = some (.string s) := by
          have := congrArg (·[0]?) hc
          simpa [List.getElem?_take, List.getElem?_drop] using this
        have h2 : (xs.map (·.1))[i]? = some (DataW.lit (.string s.data.toList) : DataW H) := by simp [hb, hb2]
        rw [hxs] at h2
        simp only [List.getElem?_map, Option.map_eq_some_iff, DataW.lit.injEq, Lit.string.injEq] at h2
        obtain ⟨z', hz', hz2⟩ := h2
        have e : (⟨z'.toArray⟩ : ByteArray) = s := by rw [hz2]
        simp [h1, hz', e]
      · rw [List.getElem?_eq_none (by omega), List.getElem?_eq_none (by simp; omega)]
    · cases h
theorem strs_of_reads {P : Program} {W : World} {l : List (String × DataW Unit)} {name : String} (zs : List (List UInt8)) {g : Nat} {t e : TypeId} {n : Nat} (hp : (l.all fun x => x.2.handleName?.isNone) = true) (h : laidMetH P l W) (hm : (name, .agg (zs.map fun z => .lit (.string z))) ∈ l)
    (hg : P.globalNamed name = some g) (hty : (P.globals[g]?).map (·.type) = some t) (ht : P.underlying t = some (.array n e)) (he : P.underlying e = some .string) (hce : P.cellsOf e = 1) (hct : P.cellsOf t = n) : W.var? P name = some (zs.map fun z => Value.string ⟨z.toArray⟩).toArray := by
  rw [MakeChecks.laidMetH_plain _ _ _ hp] at h
  obtain ⟨g', t', cs, fuel, p, hg', ht', hvar, hd⟩ := Lib.laidMet.reads h hm
  obtain rfl := Option.some.inj (hg.symm.trans hg')
  obtain rfl := Option.some.inj (hty.symm.trans ht')
  rw [hvar, ← cells_of_strs ht he hce hct hd]
theorem iface_of_reads {P : Program} {W : World} {l : List (String × DataW Unit)} {name nm : String} {d : DataW Unit} {g : Nat} {t : TypeId} {ms : Array (String × TypeId)} (hp : (l.all fun x => x.2.handleName?.isNone) = true) (h : laidMetH P l W) (hm : (name, .iface nm d) ∈ l)
    (hg : P.globalNamed name = some g) (hty : (P.globals[g]?).map (·.type) = some t) (ht : P.underlying t = some (.interface ms)) : ∃ tp p, W.var? P name = some #[.iface tp p] := by
  rw [MakeChecks.laidMetH_plain _ _ _ hp] at h
  obtain ⟨g', t', cs, fuel, p, hg', ht', hvar, hd⟩ := Lib.laidMet.reads h hm
  obtain rfl := Option.some.inj (hg.symm.trans hg')
  obtain rfl := Option.some.inj (hty.symm.trans ht')
  obtain ⟨f1, u, v, hcs, _, _⟩ := iface_of_trod ht hd
  refine ⟨u, v, ?_⟩
  rw [hvar]
  congr 1
  apply Array.toList_inj.1
  exact hcs
end Go.Proofs.YtdjcechogbcdnaaDoor.XL
namespace Go.Proofs.YtdjcechogbcdnaaDoor.lexBack
open Go.ChangeShapes Go.WideShapes Go.ChangeAt Go.RowKit
open Go.ChangeMaps (open_string shut_string)
open Go.Proofs.YtdjcechogbcdnaaDoorW.PrintWords Go.Proofs.YtdjcechogbcdnaaDoor.Open Go.Proofs.YtdjcechogbcdnaaDoor.XL
set_option linter.unusedVariables false
theorem door_met (os : Os) (args : Array Value) : laidMetH Tryd.prog Rows.lexBackRow.laid ((World.doorLaid Tryd.prog 400 os).forCall (fun _ _ => 0) ⟨#[], args, []⟩).memory :=
  laidMetH_of_parts3 (fuel := 8) (laidMet_of_run' 8 (by kernel_rfl) (by kernel_rfl)) (by kernel_rfl) (by kernel_rfl)
theorem tabs_of {W : World} (h : laidMetH Tryd.prog Rows.lexBackRow.laid W) : Tabs W :=
  ⟨tab_of_reads (by kernel_rfl) h (by exact .tail _ (.tail _ (.head _))) (g := 4) (by kernel_rfl) (by kernel_rfl) (n := 20) Tryd.underlying102 Tryd.underlying70 (by kernel_rfl) (by kernel_rfl), strs_of_reads signL (by kernel_rfl) h (by exact .tail _ (.tail _ (.tail _ (.tail _ (.tail _ (.head _)))))) (g := 0) (by kernel_rfl) (by kernel_rfl) (n := 27) Tryd.underlying51 Tryd.underlying9 (by kernel_rfl) (by kernel_rfl), iface_of_reads (by kernel_rfl) h (by exact .tail _ (.tail _ (.tail _ (.head _)))) (g := 3) (by kernel_rfl) (by kernel_rfl) Tryd.underlying46, iface_of_reads (by kernel_rfl) h (by exact .tail _ (.tail _ (.tail _ (.tail _ (.head _))))) (g := 2) (by kernel_rfl) (by kernel_rfl) Tryd.underlying46⟩
theorem own : ownKnob Tryd.prog.godebug = none := by kernel_rfl
theorem laidOut : laidOutB Tryd.prog = true := by kernel_rfl
set_option maxRecDepth 100000 in
theorem lifted (os : Os) (started : os.Started) (H : Type) (enc : TypeId × Value → H) :
    ReturnsInHanded {} Tryd.checked os 6 .any (fun w args => (Rows.lexBackSpec.pre enc Tryd.prog Tryd.f6 [] false w args ∧ laidMetH Tryd.prog Rows.lexBackRow.laid w) ∧ sizedMet enc Tryd.prog Tryd.f6 (OpenSpec.ofChange Rows.lexBackSpec) false w args) (Rows.lexBackSpec.post enc Tryd.prog Tryd.f6 false true false false) := by
  refine returnsInHanded_of_change_and (C := Tryd.checked) (X := fun w _ => laidMetH Tryd.prog Rows.lexBackRow.laid w) (fun _ _ _ hh h => h.of_heap hh) own started (by kernel_rfl) Tryd.func6
    (ChangeSpec.witness_shaped (enc := enc) (C := Tryd.checked) (os := os) (X := fun w _ => laidMetH Tryd.prog Rows.lexBackRow.laid w) false (World.doorLaid Tryd.prog 400 os) #[.string ByteArray.empty] 8 rfl (World.shaped_of_RefB (by kernel_rfl) (by kernel_rfl)) (by kernel_rfl) (by kernel_rfl) (by kernel_rfl) (door_met os _)) ?_
  intro W base args ds gs before hval0 hW hcnd hsz0 hL _
  have hsz : (DataW.weightsEach Tryd.prog (Tryd.f6.params.toList ++ Rows.lexBackSpec.plain.varTypes Tryd.prog) (ds ++ gs)).all (· ≤ reachBytes) = true := hsz0
  have hval : ∀ (j : Nat) t v, Tryd.f6.params[j]? = some t → args[j]? = some v → Value.okWide Tryd.prog W .any base t v := hval0
  have hW' := hW
  obtain ⟨p, q, hA0, hV, rfl, hfz, hnd⟩ := hW
  have hA : DataW.TrodAll enc Tryd.prog W 0 (fun _ => true) true Tryd.f6.params.toList args.toList ds p := hA0
  rw [Tryd.params6] at hA hval hsz
  obtain ⟨v0, vs0, d0, ds0, p0, q0, hargs, rfl, rfl, h0, r0⟩ := trodAll_cons hA
  obtain ⟨rfl, rfl, rfl⟩ := trodAll_nil r0
  obtain rfl : args = #[v0] := by cases args; simp_all
  obtain ⟨rfl, rfl⟩ := trodVars_none hV
  have k0 := h0
  have lt0 : ∀ x ∈ p0, x.block < W.heap.size := by obtain ⟨m, hm⟩ := k0; exact DataW.trod_lt m _ _ _ hm
  have wt0 := Open.arg_weights hsz (j := 0) (t := 9) (d := d0) rfl rfl
  obtain ⟨a0, rfl, rfl, rfl, y0⟩ := open_string Tryd.underlying9 (hval 0 9 v0 rfl rfl) h0
  have w0 : a0.size ≤ 140737488351232 := by
    have z := wt0 _ (List.mem_singleton.2 rfl)
    simpa [reachBytes] using z
  clear hA0 hval0 hsz0 hsz
  have hT := tabs_of hL
  refine (back_walk a0 W w0 hT).mono fun e W' ⟨he, bel⟩ => ?_
  subst he
  exact ⟨_, rfl, _, _, _, [], _, [], hW', trodAll_mk1 (shut_bool Tryd.underlying4 _), (trodAll_cons_mk (Below.trod laidOut (by kernel_rfl) (of_decide_eq_true (by kernel_rfl)) k0 bel lt0) trodAll_mk0), rfl, bel.frame _, fun h => by cases h⟩
theorem over : Rows.lexBackRow.holds Tryd.pinned (OpenSpec.ofChange Rows.lexBackSpec) :=
  OpenClaim.holds_of_wide 6 Tryd.f6 rfl rfl rfl rfl rfl rfl rfl ⟨rfl, rfl, rfl, rfl, rfl⟩ rfl rfl rfl rfl rfl (by kernel_rfl) Tryd.func6 (by kernel_rfl)
    (of_decide_eq_true (by kernel_rfl)) (by unfold Func.isWrapper; first | (rw [if_pos (by decide +kernel)]; kernel_rfl) | (rw [if_neg (by decide +kernel)]; exact ⟨rfl, rfl⟩))
    (fun os started H enc _ => lifted os started H enc)
theorem proved : Rows.LexBackSaid := over
theorem card_proved : Rows.LexBackCardSaid :=
  Claim7.holds_tied_plain_at .later [] [.data, .data, .data, .sentinel, .sentinel, .data] true (true, "014ed79bff4ff950644538d023eda56c2caef8150cd3955ee4071edaba877566") true proved (fun _ h => by cases h) (by kernel_rfl) (fun _ h => by cases h) lexBack_row_tie rfl ⟨rfl, rfl⟩ (by kernel_rfl) rfl
    (fun f fn hf hfn => by
      obtain rfl : f = 6 := Option.some.inj ((show Tryd.prog.funcNamed "switchyard/switchyardlaw07.LexBack" = some 6 by kernel_rfl).symm.trans hf) |>.symm
      obtain rfl : fn = Tryd.f6 := (Option.some.inj (Tryd.func6.symm.trans hfn)).symm
      exact ⟨by kernel_rfl, fun j t ht => by
        rw [Tryd.params6] at ht
        have hm : t ∈ [9] := by simpa using Array.mem_of_getElem? ht
        have hall : ([9].all fun u => !Tryd.prog.wantsStandIn u) = true := by kernel_rfl
        exact (show Tryd.prog.wantsStandIn t = false by simpa using List.all_eq_true.1 hall t hm)⟩)
    (by kernel_rfl)
end Go.Proofs.YtdjcechogbcdnaaDoor.lexBack
namespace Go.Proofs.YtdjcechogbcdnaaDoor
/-- The card, under a short name, for the claim. -/
theorem lexBack_holds : Rows.LexBackCardSaid := lexBack.card_proved
end Go.Proofs.YtdjcechogbcdnaaDoor
