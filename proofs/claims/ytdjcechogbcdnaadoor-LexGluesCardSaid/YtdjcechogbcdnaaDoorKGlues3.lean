/- switchyard/switchyardlaw07.LexGlues: for every input the law answers true, and its arguments read as before; the listed library tables are tied to the program's text by the given tie. Conditions: none but the card's own. -/
import Derived.Test.YtdjcechogbcdnaaDoorKGlues2
import Derived.SizedLaws
import Derived.ChangeArms
import Derived.DataReads
import Derived.Lib.LaidU8
import Derived.Lib.LaidTab
import Derived.MakeChecks
import Derived.LaidLaws
import Derived.Stop.LaidErr
import Derived.Test.YtdjcechogbcdnaaDoorRows
import Derived.Test.YtdjcechogbcdnaaDoorCards
import Derived.Test.YtdjcechogbcdnaaDoorTie
import Derived.WalkKit
import Derived.ProofKit
import Derived.OpenShut
import Derived.ShutString
import Derived.ChangeOld
import Derived.Below
import Derived.LaidMore
import Derived.Stop.Joined
import Derived.SevenTiedAt
namespace Go.Proofs.YtdjcechogbcdnaaDoor.XL
open Go.RowKit Go.Proofs.YtdjcechogbcdnaaDoorW.PrintWords Go.Proofs.YtdjcechogbcdnaaDoorW.PrintLast Go.Proofs.YtdjcechogbcdnaaDoorW.PrintMore
set_option linter.unusedVariables false
set_option linter.unusedSimpArgs false
theorem tokL_cons (c : UInt8) (r : List UInt8) : tokL (c :: r) = if letC c = true then wordTk 1 ((c :: r).takeWhile wordC) ((c :: r).takeWhile wordC).length
    else if digC c = true then numTk ((c :: r).takeWhile digC)
    else if c = 34 then textTk (c :: r)
    else if c = 39 then wordTk 4 (r.takeWhile wordC) (1 + (r.takeWhile wordC).length)
    else signTk (c :: r) := rfl
theorem sign_res (l : List UInt8) : signAt (mk l) = tokRes (signTk l) := by
  unfold signAt signTk signRes
  rw [mkd]
  cases signL.find? (fun z => z.isPrefixOf l) <;> rfl
theorem name_mk (l : List UInt8) : value_Name.f (mk l) = some (nameL l) := rfl
theorem c_eq {c : UInt8} {n : Nat} (hn : n < 256) : ((c.toNat : Int) = (n : Int)) ↔ c = UInt8.ofNat n := by
  constructor
  · intro h; apply UInt8.toNat_inj.1; rw [UInt8.toNat_ofNat']; omega
  · rintro rfl; rw [UInt8.toNat_ofNat']; omega
theorem let_word {c : UInt8} (h : letC c = true) : wordC c = true := by simp [wordC, h]
theorem token_ev (c : UInt8) (r : List UInt8) (hl : (c :: r).length ≤ 8000) : Ev (fun k => lex_token.f k (mk (c :: r))) (tokRes (tokL (c :: r))) := by
  have hb : bt (mk (c :: r)) 0 = (c.toNat : Int) := bt_mk (l := c :: r) (i := 0) (by simp)
  have hsz : (mk (c :: r)).size = (c :: r).length := mk_size _
  have hlr : r.length < 8000 := by rw [List.length_cons] at hl; omega
  unfold lex_token.f
  rw [hb, letter_code, digit_code]
  refine Ev.pos (by rw [hsz]; simp) (Ev.bind (Ev.now _) ?_)
  rw [tokL_cons]
  by_cases h1 : letC c = true
  · rw [if_pos h1]
    refine Ev.pos h1 (Ev.bind (run_ev (c :: r) (by omega)) ?_)
    have hw := tw_le (p := wordC) (c :: r)
    rw [Int.toNat_natCast, mk_take, tw_take, name_mk]
    refine Ev.pos (by omega) (Ev.pos (by rw [hsz]; omega) (Ev.bind (Ev.now _) ?_))
    unfold wordTk
    by_cases hn : nameL ((c :: r).takeWhile wordC) = true
    · rw [if_pos hn, if_pos hn]; exact Ev.now _
    · rw [if_neg hn, if_neg hn]; exact Ev.now _
  · rw [if_neg h1]
    refine Ev.neg h1 (Ev.bind (Ev.now _) ?_)
    by_cases h2 : digC c = true
    · rw [if_pos h2]
      refine Ev.pos h2 ?_
      have := digits_ev (c :: r) hl (by rw [List.takeWhile_cons, if_pos h2]; simp)
      rw [hb] at this
      exact this
    · rw [if_neg h2]
      refine Ev.neg h2 ?_
      by_cases h3 : c = 34
      · subst h3
        rw [if_pos rfl]
        refine Ev.pos (by rfl) ?_
        rcases text_ev r hl with ⟨t, n, e, h⟩ | ⟨e, n, t, h⟩
        · rw [e]
          exact Ev.bind h (Ev.pos rfl (Ev.now _))
        · rw [e]
          exact Ev.bind h (Ev.neg (by simp) (Ev.now _))
      · rw [if_neg h3]
        refine Ev.neg (fun h => h3 ((c_eq (by decide)).1 h)) ?_
        by_cases h4 : c = 39
        · subst h4
          rw [if_pos rfl]
          have hd : (mk (39 :: r)).extract 1 (mk (39 :: r)).size = mk r := by
            rw [mk_drop (39 :: r) 1 _ (by rw [hsz]; exact Nat.le_refl _)]; rfl
          have hw := tw_le (p := wordC) r
          have hk : wrap64 (1 + ((r.takeWhile wordC).length : Int)) = ((1 + (r.takeWhile wordC).length : Nat) : Int) := by rw [w_id] <;> omega
          refine Ev.pos (by rfl) (Ev.pos (by rw [hsz]; simp; omega) ?_)
          rw [hd]
          refine Ev.bind (run_ev r (by omega)) ?_
          rw [hk]
          have he : (mk (39 :: r)).extract 1 (((1 + (r.takeWhile wordC).length : Nat) : Int)).toNat = mk (r.takeWhile wordC) := by
            rw [Int.toNat_natCast, mk_ext, Nat.add_comm 1, List.take_succ_cons, List.drop_succ_cons, List.drop_zero, tw_take]
          rw [he, name_mk]
          refine Ev.pos (by omega) (Ev.pos (by rw [hsz, List.length_cons]; omega) (Ev.bind (Ev.now _) ?_))
          unfold wordTk
          by_cases hn : nameL (r.takeWhile wordC) = true
          · rw [if_pos hn, if_pos hn]; exact Ev.now _
          · rw [if_neg hn, if_neg hn]; exact Ev.now _
        · rw [if_neg h4, sign_res]
          exact Ev.neg (fun h => h4 ((c_eq (by decide)).1 h)) (Ev.now _)
theorem signs_len : ∀ z ∈ signL, 1 ≤ z.length := by decide
theorem prt_len (t : List UInt8) : 2 ≤ (prt t).length := by simp [prt]
theorem tok_len (l : List UInt8) (x : Tk) (h : tokL l = some x) : 1 ≤ x.2.2.2 ∧ x.2.2.2 ≤ l.length := by
  cases l with
  | nil => cases h
  | cons c r =>
    rw [tokL_cons] at h
    split at h
    · rename_i h1
      unfold wordTk at h
      split at h
      · obtain rfl := Option.some.inj h
        exact ⟨by simp [List.takeWhile_cons, let_word h1], tw_le _⟩
      · cases h
    · split at h
      · rename_i h2
        unfold numTk at h
        split at h
        · obtain rfl := Option.some.inj h
          exact ⟨by simp [List.takeWhile_cons, h2], tw_le _⟩
        · cases h
      · split at h
        · obtain ⟨t, _, h2, rfl⟩ := textTk_is h
          have := prt_len t
          exact ⟨by simp only; omega, h2.length_le⟩
        · split at h
          · unfold wordTk at h
            split at h
            · obtain rfl := Option.some.inj h
              have := tw_le (p := wordC) r
              exact ⟨by simp only; omega, by simp only [List.length_cons]; omega⟩
            · cases h
          · unfold signTk at h
            obtain ⟨z, hz, rfl⟩ := Option.map_eq_some_iff.1 h
            have hm := List.mem_of_find?_eq_some hz
            have hp := List.find?_some hz
            simp only [List.isPrefixOf_iff_prefix] at hp
            exact ⟨signs_len z hm, hp.length_le⟩
theorem bm_le : ∀ (b : Bool) (l : List UInt8), bm b l ≤ l.length
  | _, [] => by simp [bm]
  | false, c :: r => by
    have h1 := bm_le false r
    have h2 := bm_le true r
    simp only [bm, List.length_cons]
    split
    · omega
    · split <;> omega
  | true, c :: r => by
    have h1 := bm_le false r
    have h2 := bm_le true r
    simp only [bm, List.length_cons]
    split <;> omega
/-- The tokens from a place on, with so much fuel; or where the first thing stands that is none. -/
noncomputable def scanF : Nat → Nat → List UInt8 → (List S32) ⊕ Nat
  | 0, at_, _ => .inr at_
  | _ + 1, at_, [] => .inl [⟨0, (⟨#[]⟩ : ByteArray), 0, (at_ : Int)⟩]
  | f + 1, at_, c :: r => match tokL (c :: r) with
    | none => .inr at_
    | some x => match scanF f (at_ + x.2.2.2 + bm false ((c :: r).drop x.2.2.2)) (((c :: r).drop x.2.2.2).drop (bm false ((c :: r).drop x.2.2.2))) with
      | .inl ts => .inl (⟨x.1, mk x.2.1, x.2.2.1, (at_ : Int)⟩ :: ts)
      | .inr e => .inr e
def scanRes (out : List S32) : (List S32) ⊕ Nat → List S32 × Int × Int
  | .inl ts => (out ++ ts, 0, 0)
  | .inr e => ([], (e : Int), 24)
noncomputable def scanL (l : List UInt8) : (List S32) ⊕ Nat := scanF (l.length + 1) (bm false l) (l.drop (bm false l))
theorem scan_step (f at_ : Nat) (c : UInt8) (r : List UInt8) (out : List S32) (x : Tk) (hx : tokL (c :: r) = some x) : scanRes out (scanF (f + 1) at_ (c :: r)) = scanRes (out ++ [⟨x.1, mk x.2.1, x.2.2.1, (at_ : Int)⟩]) (scanF f (at_ + x.2.2.2 + bm false ((c :: r).drop x.2.2.2)) (((c :: r).drop x.2.2.2).drop (bm false ((c :: r).drop x.2.2.2)))) := by
  simp only [scanF, hx]
  cases scanF f (at_ + x.2.2.2 + bm false ((c :: r).drop x.2.2.2)) (((c :: r).drop x.2.2.2).drop (bm false ((c :: r).drop x.2.2.2))) with
  | inl ts => simp [scanRes]
  | inr e => rfl
theorem scan_loop (l : List UInt8) (hl : l.length ≤ 8000) : ∀ (f i : Nat) (out : List S32), l.length - i < f → i ≤ l.length → out.length ≤ i → Ev (fun k => lex_Scan.l0 k (mk l) out (i : Int)) (scanRes out (scanF f i (l.drop i))) := by
  intro f
  induction f with
  | zero => intro i out h; omega
  | succ f ih =>
    intro i out hf hi ho
    refine Ev.step (fun k => by simp only [lex_Scan.l0]; rfl) ?_
    by_cases hlt : i < l.length
    · have hdr := List.drop_eq_getElem_cons hlt
      generalize l[i] = c at hdr
      generalize hY : l.drop (i + 1) = Y at hdr
      have hYl : (c :: Y).length = l.length - i := by rw [← hdr, List.length_drop]
      have he : (mk l).extract ((i : Int)).toNat (mk l).size = mk (c :: Y) := by
        rw [Int.toNat_natCast, mk_drop l i _ (by rw [mk_size]; exact Nat.le_refl _), hdr]
      rw [he]
      refine Ev.pos (by rw [mk_size]; omega) (Ev.pos (by omega) (Ev.pos (by rw [mk_size]; omega) (Ev.bind (token_ev c Y (by omega)) ?_)))
      rw [hdr]
      cases hx : tokL (c :: Y) with
      | none =>
        refine Ev.pos (by rfl) (Ev.val ?_)
        simp only [scanF, hx]; rfl
      | some x =>
        obtain ⟨h1, h2⟩ := tok_len _ _ hx
        rw [hYl] at h2
        rw [scan_step f i c Y out x hx]
        obtain ⟨xk, xt, xv, n⟩ := x
        simp only at h1 h2 ⊢
        have e1 : wrap64 ((i : Int) + (n : Int)) = ((i + n : Nat) : Int) := by rw [w_id] <;> omega
        have hd2 : (c :: Y).drop n = l.drop (i + n) := by rw [← hdr, List.drop_drop]
        have hbl := bm_le false (l.drop (i + n))
        rw [List.length_drop] at hbl
        have e2 : (mk l).extract (((i + n : Nat) : Int)).toNat (mk l).size = mk (l.drop (i + n)) := by
          rw [Int.toNat_natCast, mk_drop l (i + n) _ (by rw [mk_size]; exact Nat.le_refl _)]
        rw [hd2, List.drop_drop]
        simp only [tokRes, e1, e2]
        clear e1 e2 he
        refine Ev.neg (by omega) (Ev.pos (by omega) (Ev.pos (by omega) (Ev.pos (by rw [mk_size]; omega) (Ev.bind (blanks_ev (l.drop (i + n)) (by rw [List.length_drop]; omega)) ?_))))
        have e3 : wrap64 (((i + n : Nat) : Int) + ((bm false (l.drop (i + n)) : Nat) : Int)) = ((i + n + bm false (l.drop (i + n)) : Nat) : Int) := by rw [w_id] <;> omega
        rw [e3]
        exact ih _ _ (by omega) (by omega) (by simp only [List.length_append, List.length_cons, List.length_nil]; omega)
    · rw [List.drop_eq_nil_of_le (by omega)]
      refine Ev.neg (by rw [mk_size]; omega) (Ev.pos (by omega) (Ev.val ?_))
      rfl
theorem scan_ev (l : List UInt8) (hl : l.length ≤ 8000) : Ev (fun k => lex_Scan.f k (mk l)) (scanRes [] (scanL l)) := by
  unfold lex_Scan.f
  have hb := bm_le false l
  refine Ev.neg (by rw [mk_size]; omega) (Ev.bind (blanks_ev l (by omega)) ?_)
  exact scan_loop l hl (l.length + 1) (bm false l) [] (by omega) hb (by simp)
end Go.Proofs.YtdjcechogbcdnaaDoor.XL
namespace Go.Proofs.YtdjcechogbcdnaaDoor.XL
open Go.RowKit Go.Proofs.YtdjcechogbcdnaaDoorW.PrintWords Go.Proofs.YtdjcechogbcdnaaDoorW.PrintLast Go.Proofs.YtdjcechogbcdnaaDoorW.PrintMore
attribute [local go_sem] max2_int min2_int max_two min_two max_three min_three max_four min_four   -- for this text's walks alone
set_option linter.unusedVariables false
set_option linter.unusedSimpArgs false
theorem eqA32 (d : Nat) (w : World) (x0 y0 : Int) (x1 y1 : ByteArray) (x2 y2 : Int) (x3 y3 : Int) :
    (Op.equalIn (d + 2) 32 (.agg #[.int .i64 x0, .string x1, .int .i64 x2, .int .i64 x3]) (.agg #[.int .i64 y0, .string y1, .int .i64 y2, .int .i64 y3])).run Tryd.prog w = .ok (x0 == y0 && (x1.toList == y1.toList && (x2 == y2 && (x3 == y3)))) w := by
  refine eqA_of Tryd.underlying32 (by kernel_rfl) ?_
  refine eqf_cons (by rfl) (by go_simp; rfl) (by go_simp; rfl) (by go_simp) ?_
  refine eqf_cons (by rfl) (by go_simp; rfl) (by go_simp; rfl) (by go_simp) ?_
  refine eqf_cons (by rfl) (by go_simp; rfl) (by go_simp; rfl) (by go_simp) ?_
  exact eqf_last (by rfl) (by go_simp; rfl) (by go_simp; rfl) (by go_simp)
end Go.Proofs.YtdjcechogbcdnaaDoor.XL
namespace Go.Proofs.YtdjcechogbcdnaaDoor.XL
open Go.RowKit Go.Proofs.YtdjcechogbcdnaaDoorW.PrintWords Go.Proofs.YtdjcechogbcdnaaDoorW.PrintLast Go.Proofs.YtdjcechogbcdnaaDoorW.PrintMore
set_option linter.unusedVariables false
set_option linter.unusedSimpArgs false
theorem w_sub {a b : Nat} (h : b ≤ a) (ha : a ≤ 4611686018427387904) : wrap64 ((a : Int) - (b : Int)) = ((a - b : Nat) : Int) := by unfold wrap64; omega
theorem w_add {a b : Nat} (h : a + b ≤ 4611686018427387904) : wrap64 ((a : Int) + (b : Int)) = ((a + b : Nat) : Int) := by unfold wrap64; omega
end Go.Proofs.YtdjcechogbcdnaaDoor.XL
namespace Go.Proofs.YtdjcechogbcdnaaDoor.XL
open Go.RowKit Go.Proofs.YtdjcechogbcdnaaDoorW.PrintWords Go.Proofs.YtdjcechogbcdnaaDoorW.PrintLast Go.Proofs.YtdjcechogbcdnaaDoorW.PrintMore
set_option linter.unusedVariables false
set_option linter.unusedSimpArgs false
theorem rdT_at (l : List S32) (i : Nat) (h : i < l.length) : rd_T32 l (i : Int) = l[i] := by
  unfold rd_T32; simp [h]
end Go.Proofs.YtdjcechogbcdnaaDoor.XL
namespace Go.Proofs.YtdjcechogbcdnaaDoor.XL
open Go.RowKit Go.Proofs.YtdjcechogbcdnaaDoorW.PrintWords Go.Proofs.YtdjcechogbcdnaaDoorW.PrintLast Go.Proofs.YtdjcechogbcdnaaDoorW.PrintMore
set_option linter.unusedVariables false
set_option linter.unusedSimpArgs false
theorem scanF_some {f a : Nat} {c : UInt8} {r : List UInt8} {x : Tk} (h : tokL (c :: r) = some x) : scanF (f + 1) a (c :: r) = (match scanF f (a + x.2.2.2 + bm false ((c :: r).drop x.2.2.2)) (((c :: r).drop x.2.2.2).drop (bm false ((c :: r).drop x.2.2.2))) with | .inl ts => .inl (⟨x.1, mk x.2.1, x.2.2.1, (a : Int)⟩ :: ts) | .inr e => .inr e) := by
  simp only [scanF, h] <;> rfl
theorem scanF_none {f a : Nat} {c : UInt8} {r : List UInt8} (h : tokL (c :: r) = none) : scanF (f + 1) a (c :: r) = .inr a := by
  simp only [scanF, h]
theorem aw1 : scanL [97, 45, 62, 98, 32, 47, 47, 32, 99] = .inl [⟨1, mk [97], 0, 0⟩, ⟨5, mk [45, 62], 0, 1⟩, ⟨1, mk [98], 0, 3⟩, ⟨0, ⟨#[]⟩, 0, 9⟩] := by
  have t1 : tokL [97, 45, 62, 98, 32, 47, 47, 32, 99] = some (1, [97], 0, 1) := by rw [tokL_cons, if_pos (by decide)]; decide +kernel
  have t2 : tokL [45, 62, 98, 32, 47, 47, 32, 99] = some (5, [45, 62], 0, 2) := by rw [tokL_cons, if_neg (by decide), if_neg (by decide), if_neg (by decide), if_neg (by decide)]; decide +kernel
  have t3 : tokL [98, 32, 47, 47, 32, 99] = some (1, [98], 0, 1) := by rw [tokL_cons, if_pos (by decide)]; decide +kernel
  have b0 : bm false [97, 45, 62, 98, 32, 47, 47, 32, 99] = 0 := by decide
  have b1 : bm false [45, 62, 98, 32, 47, 47, 32, 99] = 0 := by decide
  have b2 : bm false [98, 32, 47, 47, 32, 99] = 0 := by decide
  have b3 : bm false [32, 47, 47, 32, 99] = 5 := by decide
  unfold scanL
  rw [b0]
  show scanF 10 0 [97, 45, 62, 98, 32, 47, 47, 32, 99] = _
  rw [scanF_some t1]
  simp only [List.drop_succ_cons, List.drop_zero, b1]
  rw [scanF_some t2]
  simp only [List.drop_succ_cons, List.drop_zero, b2]
  rw [scanF_some t3]
  simp only [List.drop_succ_cons, List.drop_zero, b3]
  rfl
theorem aw2 : scanL [48, 49] = .inr 0 := by
  have t1 : tokL [48, 49] = none := by rw [tokL_cons, if_neg (by decide), if_pos (by decide)]; decide +kernel
  have b0 : bm false [48, 49] = 0 := by decide
  unfold scanL
  rw [b0]
  exact scanF_none t1
theorem aw3 : scanL [34, 92, 113, 34] = .inr 0 := by
  have t1 : tokL [34, 92, 113, 34] = none := by
    rw [tokL_cons, if_neg (by decide), if_neg (by decide), if_pos rfl]
    refine textTk_none fun t _ h => ?_
    obtain ⟨x, hx⟩ := h
    cases t with
    | nil => simp [prt] at hx
    | cons b t =>
      have no : ∀ n : Fin 256, ¬ (enc (UInt8.ofNat n.val)).isPrefixOf [92, 113, 34] = true := by decide +kernel
      apply no ⟨b.toNat, b.toNat_lt⟩
      simp only [UInt8.ofNat_toNat]
      rw [List.isPrefixOf_iff_prefix]
      unfold prt at hx
      rw [List.cons_append] at hx
      have := (List.cons.inj hx).2
      rw [← this, List.flatMap_cons, List.append_assoc, List.append_assoc]
      exact List.prefix_append _ _
  have b0 : bm false [34, 92, 113, 34] = 0 := by decide
  unfold scanL
  rw [b0]
  exact scanF_none t1
theorem aw4 : scanL [39] = .inr 0 := by
  have t1 : tokL [39] = none := by rw [tokL_cons, if_neg (by decide), if_neg (by decide), if_neg (by decide), if_pos rfl]; decide +kernel
  have b0 : bm false [39] = 0 := by decide
  unfold scanL
  rw [b0]
  exact scanF_none t1
theorem awake_ev : Ev (fun k => switchyardlaw07_awake.f k) true := by
  have h1 := scan_ev [97, 45, 62, 98, 32, 47, 47, 32, 99] (by decide)
  have h2 := scan_ev [48, 49] (by decide)
  have h3 := scan_ev [34, 92, 113, 34] (by decide)
  have h4 := scan_ev [39] (by decide)
  rw [aw1] at h1
  rw [aw2] at h2
  rw [aw3] at h3
  rw [aw4] at h4
  unfold switchyardlaw07_awake.f
  refine Ev.bind h1 (Ev.bind h2 (Ev.bind h3 (Ev.bind h4 ?_)))
  refine Ev.pos rfl (Ev.pos rfl (Ev.pos (by decide) (Ev.pos ?_ (Ev.pos (by decide) (Ev.pos rfl (Ev.pos rfl (Ev.pos rfl (Ev.pos rfl (Ev.now _)))))))))
  show (mk [45, 62]).toList = _
  rw [mkT]
theorem scan_len : ∀ (f a : Nat) (l : List UInt8) (ts : List S32), scanF f a l = .inl ts → ts.length ≤ f
  | 0, a, l, ts, h => by cases h
  | f + 1, a, [], ts, h => by
    have : ts = [⟨0, (⟨#[]⟩ : ByteArray), 0, (a : Int)⟩] := (Sum.inl.inj h).symm
    rw [this]; simp
  | f + 1, a, c :: r, ts, h => by
    cases hx : tokL (c :: r) with
    | none => rw [scanF_none hx] at h; cases h
    | some x =>
      rw [scanF_some hx] at h
      split at h
      · rename_i us hu
        have := scan_len f _ _ us hu
        rw [← Sum.inl.inj h, List.length_cons]; omega
      · cases h
end Go.Proofs.YtdjcechogbcdnaaDoor.XL
namespace Go.Proofs.YtdjcechogbcdnaaDoor.XL
open Go.RowKit Go.Proofs.YtdjcechogbcdnaaDoorW.PrintWords Go.Proofs.YtdjcechogbcdnaaDoorW.PrintLast Go.Proofs.YtdjcechogbcdnaaDoorW.PrintMore
set_option linter.unusedVariables false
set_option linter.unusedSimpArgs false
/-- Nothing, or a blank at the front. -/
def Gap (y : List UInt8) : Prop := y = [] ∨ ∃ b z, y = b :: z ∧ blankC b = true
theorem gap_ends {y : List UInt8} (h : Gap y) {b : UInt8} {z : List UInt8} (hy : y = b :: z) : blankC b = true := by
  rcases h with rfl | ⟨b', z', rfl, hb⟩
  · cases hy
  · rw [← (List.cons.inj hy).1]; exact hb
theorem blank_not : ∀ n : Fin 256, blankC (UInt8.ofNat n.val) = true → wordC (UInt8.ofNat n.val) = false ∧ digC (UInt8.ofNat n.val) = false ∧ UInt8.ofNat n.val ≠ 47 := by decide +kernel
theorem blank_no {b : UInt8} (h : blankC b = true) : wordC b = false ∧ digC b = false ∧ b ≠ 47 := by
  have := blank_not ⟨b.toNat, b.toNat_lt⟩
  simp only [UInt8.ofNat_toNat] at this
  exact this h
theorem tw_gap {p : UInt8 → Bool} (hp : ∀ b, blankC b = true → p b = false) : ∀ (u y : List UInt8), Gap y → (u ++ y).takeWhile p = u.takeWhile p
  | [], y, hy => by
    rcases hy with rfl | ⟨b, z, rfl, hb⟩
    · rfl
    · rw [List.nil_append, List.takeWhile_cons, hp b hb]; rfl
  | c :: u, y, hy => by
    rw [List.cons_append, List.takeWhile_cons, List.takeWhile_cons, tw_gap hp u y hy]
theorem find_same {α : Type} {p q : α → Bool} : ∀ (L : List α) (z : α), L.find? p = some z → q z = true → (∀ x ∈ L, q x = true → p x = true) → L.find? q = some z
  | [], z, h, _, _ => by cases h
  | x :: L, z, h, hq, hs => by
    rw [List.find?_cons] at h ⊢
    by_cases hx : p x = true
    · rw [hx] at h
      obtain rfl : x = z := Option.some.inj h
      rw [hq]
    · have hpx : p x = false := by simpa using hx
      rw [hpx] at h
      have hqx : q x = false := by
        rw [Bool.eq_false_iff]
        intro e; exact hx (hs x List.mem_cons_self e)
      rw [hqx]
      exact find_same L z h hq (fun y hy => hs y (List.mem_cons_of_mem _ hy))
theorem sign_bytes : ∀ z ∈ signL, ∀ c ∈ z, blankC c = false := by decide
theorem pre_gap : ∀ {z u y : List UInt8}, Gap y → (∀ c ∈ z, blankC c = false) → z <+: u ++ y → z <+: u
  | [], u, y, _, _, _ => List.nil_prefix
  | c :: z, [], y, hy, hz, h => by
    exfalso
    obtain ⟨t, ht⟩ := h
    have h1 := gap_ends hy (b := c) (z := z ++ t) (by rw [List.nil_append] at ht; rw [← ht]; rfl)
    rw [hz c List.mem_cons_self] at h1
    cases h1
  | c :: z, d :: u, y, hy, hz, h => by
    rw [List.cons_append, List.cons_prefix_cons] at h
    rw [List.cons_prefix_cons]
    exact ⟨h.1, pre_gap hy (fun x hx => hz x (List.mem_cons_of_mem _ hx)) h.2⟩
/-- A token is the same where a blank comes behind it. -/
theorem tok_gap {u y : List UInt8} {x : Tk} (hy : Gap y) (h : tokL u = some x) : tokL (u ++ y) = some x := by
  cases u with
  | nil => cases h
  | cons c r =>
    have e : c :: (r ++ y) = (c :: r) ++ y := rfl
    rw [List.cons_append]
    rw [tokL_cons] at h ⊢
    have hw := tw_gap (p := wordC) (fun b hb => (blank_no hb).1)
    have hd := tw_gap (p := digC) (fun b hb => (blank_no hb).2.1)
    by_cases l1 : letC c = true
    · rw [if_pos l1] at h ⊢
      rw [e, hw _ _ hy]; exact h
    · rw [if_neg l1] at h ⊢
      by_cases l2 : digC c = true
      · rw [if_pos l2] at h ⊢
        rw [e, hd _ _ hy]; exact h
      · rw [if_neg l2] at h ⊢
        by_cases l3 : c = 34
        · rw [if_pos l3] at h ⊢
          obtain ⟨t, t1, t2, rfl⟩ := textTk_is h
          exact textTk_some t1 (t2.trans (List.prefix_append _ _))
        · rw [if_neg l3] at h ⊢
          by_cases l4 : c = 39
          · rw [if_pos l4] at h ⊢
            rw [hw _ _ hy]; exact h
          · rw [if_neg l4] at h ⊢
            unfold signTk at h ⊢
            obtain ⟨z, hz, rfl⟩ := Option.map_eq_some_iff.1 h
            rw [e]
            have hp := List.find?_some hz
            rw [List.isPrefixOf_iff_prefix] at hp
            rw [find_same signL z hz (by rw [List.isPrefixOf_iff_prefix]; exact hp.trans (List.prefix_append _ _)) (fun v hv hq => by
              rw [List.isPrefixOf_iff_prefix] at hq ⊢; exact pre_gap hy (sign_bytes v hv) hq)]
            rfl
theorem bm_gap : ∀ (b : Bool) (u y : List UInt8), Gap y → bm b u < u.length → bm b (u ++ y) = bm b u
  | b, [], y, _, h => by simp at h
  | false, c :: r, y, hy, h => by
    simp only [bm, List.cons_append] at h ⊢
    by_cases hc : blankC c = true
    · rw [if_pos hc] at h ⊢
      rw [if_pos hc, bm_gap false r y hy (by simp only [List.length_cons] at h; omega)]
    · rw [if_neg hc] at h ⊢
      rw [if_neg hc]
      by_cases hcm : c = 47 ∧ r.head? = some 47
      · rw [if_pos hcm] at h ⊢
        have hr : (r ++ y).head? = some 47 := by
          cases r with
          | nil => cases hcm.2
          | cons d r => exact hcm.2
        rw [if_pos ⟨hcm.1, hr⟩, bm_gap true r y hy (by simp only [List.length_cons] at h; omega)]
      · rw [if_neg hcm]
        rw [if_neg]
        rintro ⟨h1, h2⟩
        cases r with
        | nil =>
          cases y with
          | nil => cases h2
          | cons b z => exact (blank_no (gap_ends hy rfl)).2.2 (Option.some.inj h2)
        | cons d r => exact hcm ⟨h1, h2⟩
  | true, c :: r, y, hy, h => by
    simp only [bm, List.cons_append] at h ⊢
    by_cases hc : c = 10
    · rw [if_pos hc] at h ⊢
      rw [if_pos hc, bm_gap false r y hy (by simp only [List.length_cons] at h; omega)]
    · rw [if_neg hc] at h ⊢
      rw [if_neg hc, bm_gap true r y hy (by simp only [List.length_cons] at h; omega)]
theorem bm_full : ∀ (b : Bool) (u z : List UInt8), bm b u = u.length → bm b (u ++ 10 :: z) = u.length + 1 + bm false z
  | true, [], z, h => by simp [bm]
  | false, [], z, h => by simp [bm, blankC]
  | false, c :: r, z, h => by
    simp only [bm, List.cons_append, List.length_cons] at h ⊢
    by_cases hc : blankC c = true
    · rw [if_pos hc] at h ⊢
      rw [bm_full false r z (by omega)]; omega
    · rw [if_neg hc] at h ⊢
      by_cases hcm : c = 47 ∧ r.head? = some 47
      · rw [if_pos hcm] at h
        have hr : (r ++ 10 :: z).head? = some 47 := by
          cases r with
          | nil => cases hcm.2
          | cons d r => exact hcm.2
        rw [if_pos ⟨hcm.1, hr⟩, bm_full true r z (by omega)]; omega
      · rw [if_neg hcm] at h; omega
  | true, c :: r, z, h => by
    simp only [bm, List.cons_append, List.length_cons] at h ⊢
    by_cases hc : c = 10
    · rw [if_pos hc] at h ⊢
      rw [bm_full false r z (by omega)]; omega
    · rw [if_neg hc] at h ⊢
      rw [bm_full true r z (by omega)]; omega
theorem scanF_fuel : ∀ (f g a : Nat) (l : List UInt8), l.length < f → l.length < g → scanF f a l = scanF g a l
  | 0, _, _, _, h, _ => by omega
  | _, 0, _, _, _, h => by omega
  | f + 1, g + 1, a, [], _, _ => rfl
  | f + 1, g + 1, a, c :: r, hf, hg => by
    cases hx : tokL (c :: r) with
    | none => rw [scanF_none hx, scanF_none hx]
    | some x =>
      obtain ⟨h1, h2⟩ := tok_len _ _ hx
      rw [scanF_some hx, scanF_some hx, scanF_fuel f g]
      · rw [List.length_drop, List.length_drop]; omega
      · rw [List.length_drop, List.length_drop]; omega
/-- The tokens of a text that begins at a place, blanks ahead. -/
noncomputable def scanW (a : Nat) (l : List UInt8) : (List S32) ⊕ Nat := scanF (l.length + 1) (a + bm false l) (l.drop (bm false l))
theorem scanW_zero (l : List UInt8) : scanL l = scanW 0 l := by unfold scanL scanW; rw [Nat.zero_add]
theorem scanW_end {a : Nat} {l : List UInt8} (h : l.drop (bm false l) = []) : scanW a l = .inl [⟨0, (⟨#[]⟩ : ByteArray), 0, ((a + bm false l : Nat) : Int)⟩] := by
  unfold scanW; rw [h]; rfl
theorem scanW_bad {a : Nat} {l r : List UInt8} {c : UInt8} (h : l.drop (bm false l) = c :: r) (hx : tokL (c :: r) = none) : scanW a l = .inr (a + bm false l) := by
  unfold scanW; rw [h]; exact scanF_none hx
theorem scanW_tok {a : Nat} {l r : List UInt8} {c : UInt8} {x : Tk} (h : l.drop (bm false l) = c :: r) (hx : tokL (c :: r) = some x) : scanW a l = (match scanW (a + bm false l + x.2.2.2) ((c :: r).drop x.2.2.2) with | .inl ts => .inl (⟨x.1, mk x.2.1, x.2.2.1, ((a + bm false l : Nat) : Int)⟩ :: ts) | .inr e => .inr e) := by
  obtain ⟨h1, h2⟩ := tok_len _ _ hx
  have hl := congrArg List.length h
  rw [List.length_drop] at hl
  unfold scanW
  rw [h, scanF_some hx, scanF_fuel l.length (((c :: r).drop x.2.2.2).length + 1) _ _ (by rw [List.length_drop, List.length_drop]; omega) (by rw [List.length_drop]; omega)]
  try rfl
/-- How a text goes on: its end, something that is no token, or a token. -/
theorem scanW_cases (a : Nat) (l : List UInt8) : (l.drop (bm false l) = [] ∧ scanW a l = .inl [⟨0, (⟨#[]⟩ : ByteArray), 0, ((a + bm false l : Nat) : Int)⟩]) ∨ (∃ c r, l.drop (bm false l) = c :: r ∧ tokL (c :: r) = none ∧ scanW a l = .inr (a + bm false l)) ∨ (∃ c r x, l.drop (bm false l) = c :: r ∧ tokL (c :: r) = some x) := by
  cases h : l.drop (bm false l) with
  | nil => exact Or.inl ⟨rfl, scanW_end h⟩
  | cons c r =>
    right
    cases hx : tokL (c :: r) with
    | none => exact Or.inl ⟨c, r, rfl, hx, scanW_bad h hx⟩
    | some x => exact Or.inr ⟨c, r, x, rfl, hx⟩
end Go.Proofs.YtdjcechogbcdnaaDoor.XL
namespace Go.Proofs.YtdjcechogbcdnaaDoor.XL
open Go.RowKit Go.Proofs.YtdjcechogbcdnaaDoorW.PrintWords Go.Proofs.YtdjcechogbcdnaaDoorW.PrintLast Go.Proofs.YtdjcechogbcdnaaDoorW.PrintMore
set_option linter.unusedVariables false
set_option linter.unusedSimpArgs false
def sh (d : Nat) (t : S32) : S32 := ⟨t.f0, t.f1, t.f2, t.f3 + (d : Int)⟩
def shR (d : Nat) : (List S32) ⊕ Nat → (List S32) ⊕ Nat
  | .inl ts => .inl (ts.map (sh d))
  | .inr e => .inr (e + d)
/-- Ahead of what comes. -/
def onto (t : List S32) : (List S32) ⊕ Nat → (List S32) ⊕ Nat
  | .inl ts => .inl (t ++ ts)
  | .inr e => .inr e
theorem scanW_tok' {a : Nat} {l r : List UInt8} {c : UInt8} {x : Tk} (h : l.drop (bm false l) = c :: r) (hx : tokL (c :: r) = some x) : scanW a l = onto [⟨x.1, mk x.2.1, x.2.2.1, ((a + bm false l : Nat) : Int)⟩] (scanW (a + bm false l + x.2.2.2) ((c :: r).drop x.2.2.2)) := by
  rw [scanW_tok h hx]
  cases scanW (a + bm false l + x.2.2.2) ((c :: r).drop x.2.2.2) <;> rfl
theorem onto_inl {t ts : List S32} {R : (List S32) ⊕ Nat} (h : onto t R = .inl ts) : ∃ us, R = .inl us ∧ ts = t ++ us := by
  cases R with
  | inl us => exact ⟨us, rfl, (Sum.inl.inj h).symm⟩
  | inr e => cases h
theorem onto_inr {t : List S32} {R : (List S32) ⊕ Nat} {e : Nat} (h : onto t R = .inr e) : R = .inr e := by
  cases R with
  | inl us => cases h
  | inr e' => exact congrArg _ (Sum.inr.inj h)
/-- A text is its first token, and a shorter one. -/
theorem scanW_ind {P : Nat → List UInt8 → Prop} (he : ∀ a l, l.drop (bm false l) = [] → P a l) (hb : ∀ a l c r, l.drop (bm false l) = c :: r → tokL (c :: r) = none → P a l)
    (ht : ∀ a l c r x, l.drop (bm false l) = c :: r → tokL (c :: r) = some x → P (a + bm false l + x.2.2.2) ((c :: r).drop x.2.2.2) → P a l) : ∀ (n : Nat) (a : Nat) (l : List UInt8), l.length ≤ n → P a l := by
  intro n
  induction n with
  | zero =>
    intro a l hl
    refine he a l ?_
    obtain rfl : l = [] := List.length_eq_zero_iff.1 (by omega)
    rfl
  | succ n ih =>
    intro a l hl
    cases h : l.drop (bm false l) with
    | nil => exact he a l h
    | cons c r =>
      cases hx : tokL (c :: r) with
      | none => exact hb a l c r h hx
      | some x =>
        obtain ⟨h1, h2⟩ := tok_len _ _ hx
        have hlen := congrArg List.length h
        rw [List.length_drop] at hlen
        exact ht a l c r x h hx (ih _ _ (by rw [List.length_drop]; omega))
theorem scanW_ne {a : Nat} {l : List UInt8} {ts : List S32} (h : scanW a l = .inl ts) : ts ≠ [] := by
  rcases scanW_cases a l with ⟨h1, h2⟩ | ⟨c, r, h1, h2, h3⟩ | ⟨c, r, x, h1, h2⟩
  · rw [h2] at h; rw [← Sum.inl.inj h]; simp
  · rw [h3] at h; cases h
  · rw [scanW_tok' h1 h2] at h
    obtain ⟨us, _, rfl⟩ := onto_inl h
    simp
theorem scanW_shift (d : Nat) (a : Nat) (l : List UInt8) : scanW (a + d) l = shR d (scanW a l) := by
  refine scanW_ind (P := fun a l => scanW (a + d) l = shR d (scanW a l)) ?_ ?_ ?_ l.length a l (Nat.le_refl _)
  · intro a l h
    rw [scanW_end h, scanW_end h]
    simp only [shR, List.map_cons, List.map_nil, sh]
    congr 3; omega
  · intro a l c r h hx
    rw [scanW_bad h hx, scanW_bad h hx]
    simp only [shR]; congr 1; omega
  · intro a l c r x h hx ih
    rw [scanW_tok' h hx, scanW_tok' h hx, show a + d + bm false l + x.2.2.2 = a + bm false l + x.2.2.2 + d by omega, ih]
    cases scanW (a + bm false l + x.2.2.2) ((c :: r).drop x.2.2.2) with
    | inl us =>
      simp only [onto, shR, List.cons_append, List.nil_append, List.map_cons, sh]
      congr 3; omega
    | inr e => rfl
theorem scanW_ge (a : Nat) (l : List UInt8) : ∀ e, scanW a l = .inr e → a + bm false l ≤ e := by
  refine scanW_ind (P := fun a l => ∀ e, scanW a l = .inr e → a + bm false l ≤ e) ?_ ?_ ?_ l.length a l (Nat.le_refl _)
  · intro a l h e he
    rw [scanW_end h] at he; cases he
  · intro a l c r h hx e he
    rw [scanW_bad h hx] at he
    have := Sum.inr.inj he; omega
  · intro a l c r x h hx ih e he
    rw [scanW_tok' h hx] at he
    have := ih e (onto_inr he)
    omega
theorem scanW_at (a : Nat) (l : List UInt8) : ∀ ts, scanW a l = .inl ts → ∀ t ∈ ts, 0 ≤ t.f3 ∧ t.f3 ≤ ((a + l.length : Nat) : Int) := by
  refine scanW_ind (P := fun a l => ∀ ts, scanW a l = .inl ts → ∀ t ∈ ts, 0 ≤ t.f3 ∧ t.f3 ≤ ((a + l.length : Nat) : Int)) ?_ ?_ ?_ l.length a l (Nat.le_refl _)
  · intro a l h ts hs t ht
    rw [scanW_end h] at hs
    rw [← Sum.inl.inj hs, List.mem_singleton] at ht
    have := bm_le false l
    subst ht
    simp only; omega
  · intro a l c r h hx ts hs
    rw [scanW_bad h hx] at hs; cases hs
  · intro a l c r x h hx ih ts hs t ht
    rw [scanW_tok' h hx] at hs
    obtain ⟨us, hu, rfl⟩ := onto_inl hs
    obtain ⟨h1, h2⟩ := tok_len _ _ hx
    have hlen := congrArg List.length h
    rw [List.length_drop] at hlen
    have hb := bm_le false l
    rw [List.cons_append, List.nil_append, List.mem_cons] at ht
    rcases ht with rfl | ht
    · simp only; omega
    · have := ih us hu t ht
      rw [List.length_drop] at this
      omega
theorem drop_gap {l y : List UInt8} {c : UInt8} {r : List UInt8} (hy : Gap y) (h : l.drop (bm false l) = c :: r) : bm false (l ++ y) = bm false l ∧ (l ++ y).drop (bm false (l ++ y)) = c :: (r ++ y) := by
  have hlen := congrArg List.length h
  rw [List.length_drop, List.length_cons] at hlen
  have hb := bm_gap false l y hy (by omega)
  refine ⟨hb, ?_⟩
  rw [hb, List.drop_append_of_le_length (by omega), h]; rfl
/-- A new line, and another text behind a text of tokens. -/
theorem scanW_glue (z : List UInt8) (a : Nat) (l : List UInt8) : ∀ ts, scanW a l = .inl ts → scanW a (l ++ 10 :: z) = onto ts.dropLast (scanW (a + l.length + 1) z) := by
  refine scanW_ind (P := fun a l => ∀ ts, scanW a l = .inl ts → scanW a (l ++ 10 :: z) = onto ts.dropLast (scanW (a + l.length + 1) z)) ?_ ?_ ?_ l.length a l (Nat.le_refl _)
  · intro a l h ts hs
    rw [scanW_end h] at hs
    rw [← Sum.inl.inj hs]
    have hle := bm_le false l
    have hl : bm false l = l.length := by
      have := congrArg List.length h
      rw [List.length_drop, List.length_nil] at this; omega
    have hb := bm_full false l z hl
    have hbz := bm_le false z
    have hd : (l ++ 10 :: z).drop (l.length + 1 + bm false z) = z.drop (bm false z) := by
      rw [Nat.add_assoc, ← List.drop_drop, List.drop_left, Nat.add_comm 1, List.drop_succ_cons]
    have e : scanW a (l ++ 10 :: z) = scanW (a + l.length + 1) z := by
      unfold scanW
      rw [hb, hd, show a + (l.length + 1 + bm false z) = a + l.length + 1 + bm false z by omega]
      apply scanF_fuel
      · rw [List.length_drop, List.length_append, List.length_cons]; omega
      · rw [List.length_drop]; omega
    rw [e]
    cases scanW (a + l.length + 1) z <;> rfl
  · intro a l c r h hx ts hs
    rw [scanW_bad h hx] at hs; cases hs
  · intro a l c r x h hx ih ts hs
    rw [scanW_tok' h hx] at hs
    obtain ⟨us, hu, rfl⟩ := onto_inl hs
    have gy : Gap (10 :: z) := Or.inr ⟨10, z, rfl, by decide⟩
    obtain ⟨hb, hd⟩ := drop_gap gy h
    have hx2 : tokL (c :: (r ++ 10 :: z)) = some x := by
      have := tok_gap gy hx
      exact this
    obtain ⟨h1, h2⟩ := tok_len _ _ hx
    have hlen := congrArg List.length h
    rw [List.length_drop] at hlen
    have hb2 := bm_le false l
    have hsub : (c :: (r ++ 10 :: z)).drop x.2.2.2 = (c :: r).drop x.2.2.2 ++ 10 :: z := by
      rw [← List.cons_append, List.drop_append_of_le_length h2]
    rw [scanW_tok' hd hx2, hb, hsub, ih us hu]
    have hl2 : a + bm false l + x.2.2.2 + ((c :: r).drop x.2.2.2).length + 1 = a + l.length + 1 := by
      rw [List.length_drop]; omega
    rw [hl2]
    have hne := scanW_ne hu
    have hdl : (([⟨x.1, mk x.2.1, x.2.2.1, ((a + bm false l : Nat) : Int)⟩] : List S32) ++ us).dropLast = ⟨x.1, mk x.2.1, x.2.2.1, ((a + bm false l : Nat) : Int)⟩ :: us.dropLast := by
      rw [List.cons_append, List.nil_append, List.dropLast_cons_of_ne_nil hne]
    rw [hdl]
    cases scanW (a + l.length + 1) z <;> rfl
/-- What isn't a text of tokens is none with something behind it, from there on. -/
theorem scanW_err {y : List UInt8} (hy : Gap y) (a : Nat) (l : List UInt8) : ∀ e, scanW a l = .inr e → ∀ e', scanW a (l ++ y) = .inr e' → e ≤ e' := by
  refine scanW_ind (P := fun a l => ∀ e, scanW a l = .inr e → ∀ e', scanW a (l ++ y) = .inr e' → e ≤ e') ?_ ?_ ?_ l.length a l (Nat.le_refl _)
  · intro a l h e he
    rw [scanW_end h] at he; cases he
  · intro a l c r h hx e he e' he'
    rw [scanW_bad h hx] at he
    have h1 := Sum.inr.inj he
    have h2 := scanW_ge _ _ _ he'
    rw [(drop_gap hy h).1] at h2
    omega
  · intro a l c r x h hx ih e he e' he'
    obtain ⟨hb, hd⟩ := drop_gap hy h
    have hx2 : tokL (c :: (r ++ y)) = some x := tok_gap hy hx
    obtain ⟨h1, h2⟩ := tok_len _ _ hx
    have hsub : (c :: (r ++ y)).drop x.2.2.2 = (c :: r).drop x.2.2.2 ++ y := by
      rw [← List.cons_append, List.drop_append_of_le_length h2]
    rw [scanW_tok' h hx] at he
    rw [scanW_tok' hd hx2, hb, hsub] at he'
    exact ih e (onto_inr he) e' (onto_inr he')
end Go.Proofs.YtdjcechogbcdnaaDoor.XL
namespace Go.Proofs.YtdjcechogbcdnaaDoor.XL
open Go.RowKit Go.Proofs.YtdjcechogbcdnaaDoorW.PrintWords Go.Proofs.YtdjcechogbcdnaaDoorW.PrintLast Go.Proofs.YtdjcechogbcdnaaDoorW.PrintMore
set_option linter.unusedVariables false
set_option linter.unusedSimpArgs false
/-- A change of one block. -/
structure Only (g : Nat) (w w' : World) : Prop where
  os : w'.os = w.os
  tape : w'.tape = w.tape
  output : w'.output = w.output
  size : w'.heap.size = w.heap.size
  block : ∀ k, k ≠ g → w'.heap[k]? = w.heap[k]?
theorem Only.refl (g : Nat) (w : World) : Only g w w := ⟨rfl, rfl, rfl, rfl, fun _ _ => rfl⟩
theorem Only.trans {g : Nat} {a b c : World} (h : Only g a b) (k : Only g b c) : Only g a c :=
  ⟨k.os.trans h.os, k.tape.trans h.tape, k.output.trans h.output, k.size.trans h.size, fun q hq => (k.block q hq).trans (h.block q hq)⟩
theorem Only.below {g : Nat} {B : Nat} {a w w' : World} (h : Below B a w) (k : Only g w w') (hg : B ≤ g) : Below B a w' :=
  ⟨k.os.trans h.os, k.tape.trans h.tape, k.output.trans h.output, by rw [k.size]; exact h.size, fun q hq => (k.block q (by omega)).trans (h.block q hq)⟩
theorem R_only {α : Type} {d : Kd α} {e g : Nat} {w w1 : World} {base : Nat} {ok : Nat → Prop} {v : Value} {xs : List α} (h : d.R e w base ok v xs) (k : Only g w w1) (hok : ∀ k, ok k → k ≠ g) : d.R e w1 base ok v xs :=
  Kd.R_step h (fun q hq _ => k.block q (hok q hq))
section
variable {ops : Array Oper} {rest : List Oper} {o : Oper} {a : Act} {Q : Exit → Act → World → Prop} {W : World}
/-- A token is written over a whole box. -/
theorem store32 {p : Tmp} {v : Operand} {g : Nat} {cur : Array Value} {u : Value} {seg : List Value} (ho : o.op = .store 32 (.tmp p) v) (hgd : o.guard = none) (hN : o.dst = none) (hp : a.eval (.tmp p) = .pointer (some ⟨g, 0, none⟩)) (hv : a.eval v = u) (hu : u.cells.toList = seg) (h4 : seg.length = 4) (h1 : ∀ q ∈ seg, q.oneCell' = true) (hh : W.heap[g]? = some (.cells cur 32 (0, 0))) (hc : cur.size = 4)
    (h : ∀ w', Only g W w' → w'.heap[g]? = some (.cells seg.toArray 32 (0, 0)) → wpList Tryd.prog ops Q rest a w') : wpList Tryd.prog ops Q (o :: rest) a W := by
  have ht : (Tryd.prog.info? 32).map (·.size) = some seg.length := by rw [h4]; kernel_rfl
  have hrun := run_store_run (P := Tryd.prog) (g := g) (o := 0) 32 u seg hh hu ht (by omega) h1
  obtain ⟨s1, s2, s3, s4⟩ := setCells_same g seg 0 W
  obtain ⟨cur', r1, r2, r3⟩ := setCells_row seg 0 W cur hh (by omega)
  have hcur : cur' = seg.toArray := by
    apply Array.toList_inj.1
    rw [r3, List.take_zero, List.nil_append, List.drop_eq_nil_of_le (by rw [Array.length_toList]; omega), List.append_nil]
  refine wpList_plain hgd fun K hK => ?_
  unfold Oper.wp execOp
  simp only [ho, hp, hv, Sem.run_bind, Sem.run_pure, Result.andThen_ok, hrun]
  show K (a.put o.dst undef) _
  rw [hN]
  exact hK a _ (h _ ⟨s1, s2, s3, s4, fun k hk => setCells_far seg 0 k hk⟩ (hcur ▸ r1))
/-- A number is written into a token's place in a box. -/
theorem storeAt {p : Tmp} {v : Operand} {g : Nat} {f0 x3 f2 x : Int} {f1 : ByteArray} (ho : o.op = .store 3 (.tmp p) v) (hgd : o.guard = none) (hN : o.dst = none) (hp : a.eval (.tmp p) = .pointer (some ⟨g, 3, none⟩)) (hv : a.eval v = .int .i64 x) (hh : W.heap[g]? = some (.cells #[.int .i64 f0, .string f1, .int .i64 f2, .int .i64 x3] 32 (0, 0)))
    (h : ∀ w', Only g W w' → w'.heap[g]? = some (.cells #[.int .i64 f0, .string f1, .int .i64 f2, .int .i64 x] 32 (0, 0)) → wpList Tryd.prog ops Q rest a w') : wpList Tryd.prog ops Q (o :: rest) a W := by
  have hrun := run_store_run (P := Tryd.prog) (g := g) (o := 3) 3 (.int .i64 x) [.int .i64 x] hh rfl (by kernel_rfl) (by simp) (by simp [Value.oneCell'])
  obtain ⟨s1, s2, s3, s4⟩ := setCells_same g [.int .i64 x] 3 W
  obtain ⟨cur', r1, r2, r3⟩ := setCells_row [.int .i64 x] 3 W _ hh (by simp)
  have hcur : cur' = #[.int .i64 f0, .string f1, .int .i64 f2, .int .i64 x] := by
    apply Array.toList_inj.1
    rw [r3]; rfl
  refine wpList_plain hgd fun K hK => ?_
  unfold Oper.wp execOp
  simp only [ho, hp, hv, Sem.run_bind, Sem.run_pure, Result.andThen_ok, hrun]
  show K (a.put o.dst undef) _
  rw [hN]
  exact hK a _ (h _ ⟨s1, s2, s3, s4, fun k hk => setCells_far _ 3 k hk⟩ (hcur ▸ r1))
/-- A number is read off a token's place in a box. -/
theorem loadAt3 {p : Tmp} {g j : Nat} {x : Int} (ho : o.op = .load 3 (.tmp p)) (hgd : o.guard = none) (hp : a.eval (.tmp p) = .pointer (some ⟨g, j, none⟩)) (hc : W.cell? ⟨g, j, none⟩ = some (.int .i64 x))
    (h : wpList Tryd.prog ops Q rest (a.put o.dst (.int .i64 x)) W) : wpList Tryd.prog ops Q (o :: rest) a W := by
  have hu := Tryd.underlying3
  have hrun : (Instr.loadAt 3 (.pointer (some ⟨g, j, none⟩))).run Tryd.prog W = .ok (.int .i64 x) W := by
    simp [Instr.loadAt, Instr.sureAddr, loadVar, isAgg, run_underlying hu, hc, go_sem]
  refine wpList_plain hgd fun K hK => ?_
  unfold Oper.wp execOp
  simp only [ho, hp, Sem.run_bind, Sem.run_pure, Result.andThen_ok, hrun]
  exact hK _ W h
end
end Go.Proofs.YtdjcechogbcdnaaDoor.XL
namespace Go.Proofs.YtdjcechogbcdnaaDoor.XL
open Go.RowKit Go.Proofs.YtdjcechogbcdnaaDoorW.PrintWords Go.Proofs.YtdjcechogbcdnaaDoorW.PrintLast Go.Proofs.YtdjcechogbcdnaaDoorW.PrintMore
attribute [local go_sem] max2_int min2_int max_two min_two max_three min_three max_four min_four   -- for this text's walks alone
set_option linter.unusedVariables false
set_option linter.unusedSimpArgs false
attribute [local go_sem high] eqA32
section
variable {ops : Array Oper} {rest : List Oper} {o : Oper} {a : Act} {Q : Exit → Act → World → Prop} {W : World}
end
mutual
def switchyardlaw07_LexGlues.j0 : Nat → ByteArray → ByteArray → Bool → Option (Bool)
  | 0, _, _, _ => none
  | k + 1, x0, x1, x33 => if x33 = true then ((switchyardlaw07_awake.f k).bind fun t313 => (some t313)) else ((lex_Scan.f k x0).bind fun bt314 => ((lex_Scan.f k x1).bind fun bt319 => (if x0.size + 1 ≤ 9223372036854775807 then (if (x0 ++ (⟨#[10]⟩ : ByteArray)).size + x1.size ≤ 9223372036854775807 then ((lex_Scan.f k ((x0 ++ (⟨#[10]⟩ : ByteArray)) ++ x1)).bind fun bt324 => (if bt314.2.2 = 0 then (if bt319.2.2 = 0 then (if bt324.2.2 = 0 then (switchyardlaw07_LexGlues.j1 k x0 bt314.1 bt319.1 bt324.1 ((bt324.1.length : Int) != (wrap64 ((wrap64 ((bt314.1.length : Int) + (bt319.1.length : Int))) - 1)))) else (switchyardlaw07_LexGlues.j1 k x0 bt314.1 bt319.1 bt324.1 true)) else ((switchyardlaw07_awake.f k).bind fun t330 => (if t330 = true then (some (bt324.2.2 == 24)) else (none)))) else ((switchyardlaw07_awake.f k).bind fun t329 => (if t329 = true then (if bt324.2.2 = 0 then (some true) else (some (decide (bt324.2.1 ≥ bt314.2.1)))) else (none))))) else (none)) else (none))))
def switchyardlaw07_LexGlues.j1 : Nat → ByteArray → List (S32) → List (S32) → List (S32) → Bool → Option (Bool)
  | 0, _, _, _, _, _ => none
  | k + 1, x0, x5, x8, x11, x87 => if x87 = true then (none) else (switchyardlaw07_LexGlues.l0 k x0 x5 x8 x11 (x11.length : Int) 0)
def switchyardlaw07_LexGlues.l0 : Nat → ByteArray → List (S32) → List (S32) → List (S32) → Int → Int → Option (Bool)
  | 0, _, _, _, _, _, _ => none
  | k + 1, x0, x5, x8, x11, x89, x90 => if x90 < x89 then (if x90 < (wrap64 ((x5.length : Int) - 1)) then (if 0 ≤ x90 then (if x90 < (x5.length : Int) then (if x90 < (x11.length : Int) then (if (!(((rd_T32 x11 x90).f0) == ((rd_T32 x5 x90).f0)) || (!((((rd_T32 x11 x90).f1).toList) == (((rd_T32 x5 x90).f1).toList)) || (!(((rd_T32 x11 x90).f2) == ((rd_T32 x5 x90).f2)) || (!(((rd_T32 x11 x90).f3) == ((rd_T32 x5 x90).f3)))))) = true then (none) else (switchyardlaw07_LexGlues.l0 k x0 x5 x8 x11 x89 (wrap64 (x90 + 1)))) else (none)) else (none)) else (none)) else (if 0 ≤ (wrap64 ((wrap64 (x90 - (x5.length : Int))) + 1)) then (if (wrap64 ((wrap64 (x90 - (x5.length : Int))) + 1)) < (x8.length : Int) then (if 0 ≤ x90 then (if x90 < (x11.length : Int) then (if (!(((rd_T32 x11 x90).f0) == ((rd_T32 x8 (wrap64 ((wrap64 (x90 - (x5.length : Int))) + 1))).f0)) || (!((((rd_T32 x11 x90).f1).toList) == (((rd_T32 x8 (wrap64 ((wrap64 (x90 - (x5.length : Int))) + 1))).f1).toList)) || (!(((rd_T32 x11 x90).f2) == ((rd_T32 x8 (wrap64 ((wrap64 (x90 - (x5.length : Int))) + 1))).f2)) || (!(((rd_T32 x11 x90).f3) == (wrap64 (((rd_T32 x8 (wrap64 ((wrap64 (x90 - (x5.length : Int))) + 1))).f3) + (wrap64 ((x0.size : Int) + 1))))))))) = true then (none) else (switchyardlaw07_LexGlues.l0 k x0 x5 x8 x11 x89 (wrap64 (x90 + 1)))) else (none)) else (none)) else (none)) else (none))) else ((switchyardlaw07_awake.f k).bind fun t331 => (some t331))
end
def switchyardlaw07_LexGlues.f (k : Nat) (a0 : ByteArray) (a1 : ByteArray) : Option (Bool) := (switchyardlaw07_awake.f k).bind fun t312 => (if t312 = true then (if (wrap64 ((a0.size : Int) + (a1.size : Int))) > 7000 then (switchyardlaw07_LexGlues.j0 k a0 a1 true) else (if (a0.size : Int) > 7000 then (switchyardlaw07_LexGlues.j0 k a0 a1 true) else (switchyardlaw07_LexGlues.j0 k a0 a1 (decide ((a1.size : Int) > 7000))))) else (none))
set_option maxHeartbeats 4000000 in
set_option maxRecDepth 100000 in
theorem switchyardlaw07_LexGlues.calls (k : Nat) (a0 : ByteArray) (a1 : ByteArray) (r : Bool) (w : World) (h : switchyardlaw07_LexGlues.f k a0 a1 = some r) (hT : Tabs w) :
    Calls Tryd.prog 5 #[.string a0, .string a1] w fun e w' => e = .returned (.bool r) ∧ Below w.heap.size w w' := by
  have HT := Aside0.mk hT
  clear hT
  have hu32 := Tryd.underlying32
  have HB := Aside0.mk (Below.refl w.heap.size w)
  have H : ((switchyardlaw07_awake.f k).bind fun t312 => (if t312 = true then (if (wrap64 ((a0.size : Int) + (a1.size : Int))) > 7000 then (switchyardlaw07_LexGlues.j0 k a0 a1 true) else (if (a0.size : Int) > 7000 then (switchyardlaw07_LexGlues.j0 k a0 a1 true) else (switchyardlaw07_LexGlues.j0 k a0 a1 (decide ((a1.size : Int) > 7000))))) else (none))) = some r := h
  clear h
  replace H := Option.bind_eq_some_iff.mp H
  obtain ⟨t312, A30, H⟩ := H
  replace H : (if t312 = true then (if (wrap64 ((a0.size : Int) + (a1.size : Int))) > 7000 then (switchyardlaw07_LexGlues.j0 k a0 a1 true) else (if (a0.size : Int) > 7000 then (switchyardlaw07_LexGlues.j0 k a0 a1 true) else (switchyardlaw07_LexGlues.j0 k a0 a1 (decide ((a1.size : Int) > 7000))))) else (none)) = some r := H
  have A3 := Aside0.mk A30
  clear A30
  by_cases c4 : t312 = true
  · subst c4
    have H1 : (if (wrap64 ((a0.size : Int) + (a1.size : Int))) > 7000 then (switchyardlaw07_LexGlues.j0 k a0 a1 true) else (if (a0.size : Int) > 7000 then (switchyardlaw07_LexGlues.j0 k a0 a1 true) else (switchyardlaw07_LexGlues.j0 k a0 a1 (decide ((a1.size : Int) > 7000))))) = some r := by rw [if_pos rfl] at H; exact H
    clear H
    have H := H1
    clear H1
    have HC5 := Aside0.mk H
    clear H
    go_enter Tryd.func5, Tryd.ntmps5
    go_upto_region 3 with (first | (go_at_call 7; refine calls_of_args (args' := #[]) (by first | rfl) ?_; (with_reducible refine (switchyardlaw07_awake.calls k  true _ A3.out (Tabs.below HT.out (by repeat (first | (with_reducible first | exact HB.out | apply below_alloc | apply pw_below_drewN | apply below_drew1) | exact HB.out)))).mono ?_); rintro e w6 ⟨rfl, hb⟩; have n0_ := Aside0.mk (below_step (by repeat (first | (with_reducible first | exact HB.out | apply below_alloc | apply pw_below_drewN | apply below_drew1) | exact HB.out)) hb); clear HB; have HB := n0_; clear n0_; (try clear hb); (try clear hb2); (try clear hk); (try clear hi)))
    repeat (go_quiet (first | (go_at_call 7; refine calls_of_args (args' := #[]) (by first | rfl) ?_; (with_reducible refine (switchyardlaw07_awake.calls k  true _ A3.out (Tabs.below HT.out (by repeat (first | (with_reducible first | exact HB.out | apply below_alloc | apply pw_below_drewN | apply below_drew1) | exact HB.out)))).mono ?_); rintro e w6 ⟨rfl, hb⟩; have n0_ := Aside0.mk (below_step (by repeat (first | (with_reducible first | exact HB.out | apply below_alloc | apply pw_below_drewN | apply below_drew1) | exact HB.out)) hb); clear HB; have HB := n0_; clear n0_; (try clear hb); (try clear hb2); (try clear hk); (try clear hi))); go_upto_region 3 with (first | (go_at_call 7; refine calls_of_args (args' := #[]) (by first | rfl) ?_; (with_reducible refine (switchyardlaw07_awake.calls k  true _ A3.out (Tabs.below HT.out (by repeat (first | (with_reducible first | exact HB.out | apply below_alloc | apply pw_below_drewN | apply below_drew1) | exact HB.out)))).mono ?_); rintro e w6 ⟨rfl, hb⟩; have n0_ := Aside0.mk (below_step (by repeat (first | (with_reducible first | exact HB.out | apply below_alloc | apply pw_below_drewN | apply below_drew1) | exact HB.out)) hb); clear HB; have HB := n0_; clear n0_; (try clear hb); (try clear hb2); (try clear hk); (try clear hi))))
    (try simp only [Act.put, List.setIfInBounds_toArray, List.set_cons_zero, List.set_cons_succ])
    go_cut [33] (fun v33 wc => ∃ (kq : Nat) (x33_4 : Bool), v33 = .bool x33_4 ∧ Aside0 (switchyardlaw07_LexGlues.j0 kq a0 a1 x33_4 = some r) ∧ Aside0 (kq ≤ k) ∧ Aside0 (Below w.heap.size w wc))
    case first =>
      have H := HC5.out
      clear HC5
      by_cases c7 : (wrap64 ((a0.size : Int) + (a1.size : Int))) > 7000
      · rw [if_pos c7] at H
        have c7b0 : decide (7000 < (wrap64 ((a0.size : Int) + (a1.size : Int)))) = true := decide_eq_true c7
        clear c7
        (first | rw [c7b0] | (simp only [i64_w, i32_w]; rw [c7b0]) | skip)
        have H' := Aside0.mk H
        clear H
        go_wp2
        repeat (go_quiet (fail); try go_wp2)
        go_meet
        case rel => exact ⟨_, (true), (by first | rfl | (simp; done) | (simp [*]; done)), H', ⟨by first | omega | exact Nat.le_refl _⟩, ⟨by repeat (first | (with_reducible first | exact HB.out | apply below_alloc | apply pw_below_drewN | apply below_drew1) | exact HB.out)⟩⟩
      · rw [if_neg c7] at H
        have c7b0 : decide (7000 < (wrap64 ((a0.size : Int) + (a1.size : Int)))) = false := decide_eq_false c7
        clear c7
        (first | rw [c7b0] | (simp only [i64_w, i32_w]; rw [c7b0]) | skip)
        by_cases c8 : (a0.size : Int) > 7000
        · rw [if_pos c8] at H
          have c8b0 : decide (7000 < (a0.size : Int)) = true := decide_eq_true c8
          have c8b1 : decide (7000 < a0.size) = true := decide_eq_true (by omega)
          clear c8
          have H' := Aside0.mk H
          clear H
          go_wp2
          repeat (go_quiet (fail); try go_wp2)
          go_meet
          case rel => exact ⟨_, (true), (by first | rfl | (simp; done) | (simp [*]; done)), H', ⟨by first | omega | exact Nat.le_refl _⟩, ⟨by repeat (first | (with_reducible first | exact HB.out | apply below_alloc | apply pw_below_drewN | apply below_drew1) | exact HB.out)⟩⟩
        · rw [if_neg c8] at H
          have c8b0 : decide (7000 < (a0.size : Int)) = false := decide_eq_false c8
          have c8b1 : decide (7000 < a0.size) = false := decide_eq_false (by omega)
          clear c8
          have H' := Aside0.mk H
          clear H
          go_wp2
          repeat (go_quiet (fail); try go_wp2)
          go_meet
          case rel => exact ⟨_, (decide ((a1.size : Int) > 7000)), (by first | rfl | (simp; done) | (simp [*]; done)), H', ⟨by first | omega | exact Nat.le_refl _⟩, ⟨by repeat (first | (with_reducible first | exact HB.out | apply below_alloc | apply pw_below_drewN | apply below_drew1) | exact HB.out)⟩⟩
    case rest =>
      clear HC5
      try clear p2
      try clear c4
      try clear c5
      try clear p6
      try clear c7
      try clear c7b0
      try clear c8
      try clear c8b0
      try clear c8b1
      obtain ⟨kq, x33_4, rfl, HA, HJ4, HB⟩ := hcut
      cases kq with
      | zero => exact absurd HA.out (by simp [switchyardlaw07_LexGlues.j0])
      | succ kj4 =>
        have H := HA.out
        clear HA
        simp only [switchyardlaw07_LexGlues.j0] at H
        by_cases c9 : x33_4 = true
        · subst c9
          have H1 : ((switchyardlaw07_awake.f kj4).bind fun t313 => (some t313)) = some r := by rw [if_pos rfl] at H; exact H
          clear H
          have H := H1
          clear H1
          replace H := Option.bind_eq_some_iff.mp H
          obtain ⟨t313, A100, H⟩ := H
          replace H : (some t313) = some r := H
          have A10 := Aside0.mk A100
          clear A100
          obtain rfl := Option.some.inj H
          go_wp2_with (first | (go_at_call 7; refine calls_of_args (args' := #[]) (by first | rfl) ?_; (with_reducible refine (switchyardlaw07_awake.calls kj4  t313 _ A10.out (Tabs.below HT.out (by repeat (first | (with_reducible first | exact HB.out | apply below_alloc | apply pw_below_drewN | apply below_drew1) | exact HB.out)))).mono ?_); rintro e w11 ⟨rfl, hb⟩; have n0_ := Aside0.mk (below_step (by repeat (first | (with_reducible first | exact HB.out | apply below_alloc | apply pw_below_drewN | apply below_drew1) | exact HB.out)) hb); clear HB; have HB := n0_; clear n0_; (try clear hb); (try clear hb2); (try clear hk); (try clear hi)))
          repeat (go_quiet (first | (go_at_call 7; refine calls_of_args (args' := #[]) (by first | rfl) ?_; (with_reducible refine (switchyardlaw07_awake.calls kj4  t313 _ A10.out (Tabs.below HT.out (by repeat (first | (with_reducible first | exact HB.out | apply below_alloc | apply pw_below_drewN | apply below_drew1) | exact HB.out)))).mono ?_); rintro e w11 ⟨rfl, hb⟩; have n0_ := Aside0.mk (below_step (by repeat (first | (with_reducible first | exact HB.out | apply below_alloc | apply pw_below_drewN | apply below_drew1) | exact HB.out)) hb); clear HB; have HB := n0_; clear n0_; (try clear hb); (try clear hb2); (try clear hk); (try clear hi))); try go_wp2_with (first | (go_at_call 7; refine calls_of_args (args' := #[]) (by first | rfl) ?_; (with_reducible refine (switchyardlaw07_awake.calls kj4  t313 _ A10.out (Tabs.below HT.out (by repeat (first | (with_reducible first | exact HB.out | apply below_alloc | apply pw_below_drewN | apply below_drew1) | exact HB.out)))).mono ?_); rintro e w11 ⟨rfl, hb⟩; have n0_ := Aside0.mk (below_step (by repeat (first | (with_reducible first | exact HB.out | apply below_alloc | apply pw_below_drewN | apply below_drew1) | exact HB.out)) hb); clear HB; have HB := n0_; clear n0_; (try clear hb); (try clear hb2); (try clear hk); (try clear hi))))
          go_ret
          exact ⟨by first | rfl | (simp [errW_none, errW_some] <;> rfl) | (simp [*, errW_none, errW_some] <;> rfl), by repeat (first | (with_reducible first | exact HB.out | apply below_alloc | apply pw_below_drewN | apply below_drew1) | exact HB.out)⟩
        · replace c9 := Bool.eq_false_iff.mpr c9
          subst c9
          have H1 : ((lex_Scan.f kj4 a0).bind fun bt314 => ((lex_Scan.f kj4 a1).bind fun bt319 => (if a0.size + 1 ≤ 9223372036854775807 then (if (a0 ++ (⟨#[10]⟩ : ByteArray)).size + a1.size ≤ 9223372036854775807 then ((lex_Scan.f kj4 ((a0 ++ (⟨#[10]⟩ : ByteArray)) ++ a1)).bind fun bt324 => (if bt314.2.2 = 0 then (if bt319.2.2 = 0 then (if bt324.2.2 = 0 then (switchyardlaw07_LexGlues.j1 kj4 a0 bt314.1 bt319.1 bt324.1 ((bt324.1.length : Int) != (wrap64 ((wrap64 ((bt314.1.length : Int) + (bt319.1.length : Int))) - 1)))) else (switchyardlaw07_LexGlues.j1 kj4 a0 bt314.1 bt319.1 bt324.1 true)) else ((switchyardlaw07_awake.f kj4).bind fun t330 => (if t330 = true then (some (bt324.2.2 == 24)) else (none)))) else ((switchyardlaw07_awake.f kj4).bind fun t329 => (if t329 = true then (if bt324.2.2 = 0 then (some true) else (some (decide (bt324.2.1 ≥ bt314.2.1)))) else (none))))) else (none)) else (none)))) = some r := by rw [if_neg (show ¬ (false = true) by decide)] at H; exact H
          clear H
          have H := H1
          clear H1
          replace H := Option.bind_eq_some_iff.mp H
          obtain ⟨⟨t314, t315, t316⟩, A120, H⟩ := H
          replace H : ((lex_Scan.f kj4 a1).bind fun bt319 => (if a0.size + 1 ≤ 9223372036854775807 then (if (a0 ++ (⟨#[10]⟩ : ByteArray)).size + a1.size ≤ 9223372036854775807 then ((lex_Scan.f kj4 ((a0 ++ (⟨#[10]⟩ : ByteArray)) ++ a1)).bind fun bt324 => (if t316 = 0 then (if bt319.2.2 = 0 then (if bt324.2.2 = 0 then (switchyardlaw07_LexGlues.j1 kj4 a0 t314 bt319.1 bt324.1 ((bt324.1.length : Int) != (wrap64 ((wrap64 ((t314.length : Int) + (bt319.1.length : Int))) - 1)))) else (switchyardlaw07_LexGlues.j1 kj4 a0 t314 bt319.1 bt324.1 true)) else ((switchyardlaw07_awake.f kj4).bind fun t330 => (if t330 = true then (some (bt324.2.2 == 24)) else (none)))) else ((switchyardlaw07_awake.f kj4).bind fun t329 => (if t329 = true then (if bt324.2.2 = 0 then (some true) else (some (decide (bt324.2.1 ≥ t315)))) else (none))))) else (none)) else (none))) = some r := H
          have A12 := Aside0.mk A120
          clear A120
          replace H := Option.bind_eq_some_iff.mp H
          obtain ⟨⟨t319, t320, t321⟩, A130, H⟩ := H
          replace H : (if a0.size + 1 ≤ 9223372036854775807 then (if (a0 ++ (⟨#[10]⟩ : ByteArray)).size + a1.size ≤ 9223372036854775807 then ((lex_Scan.f kj4 ((a0 ++ (⟨#[10]⟩ : ByteArray)) ++ a1)).bind fun bt324 => (if t316 = 0 then (if t321 = 0 then (if bt324.2.2 = 0 then (switchyardlaw07_LexGlues.j1 kj4 a0 t314 t319 bt324.1 ((bt324.1.length : Int) != (wrap64 ((wrap64 ((t314.length : Int) + (t319.length : Int))) - 1)))) else (switchyardlaw07_LexGlues.j1 kj4 a0 t314 t319 bt324.1 true)) else ((switchyardlaw07_awake.f kj4).bind fun t330 => (if t330 = true then (some (bt324.2.2 == 24)) else (none)))) else ((switchyardlaw07_awake.f kj4).bind fun t329 => (if t329 = true then (if bt324.2.2 = 0 then (some true) else (some (decide (bt324.2.1 ≥ t315)))) else (none))))) else (none)) else (none)) = some r := H
          have A13 := Aside0.mk A130
          clear A130
          by_cases c14 : a0.size + 1 ≤ 9223372036854775807
          · rw [if_pos c14] at H
            have HEW := Aside0.mk (show wrap64 ((a0.size : Int) + 1) = (a0.size : Int) + 1 by unfold wrap64; omega)
            have c14b0 := eq_true c14
            have c14b1 : decide (a0.size + 1 ≤ 9223372036854775807) = true := decide_eq_true c14
            try have c14b2 : (9223372036854775807 < a0.size + 1) = False := eq_false (Nat.not_lt.2 c14)
            try (have c14s := c14; simp only [ByteArray.size_append, bsize_mk, List.size_toArray, List.length_cons, List.length_nil, Nat.reduceAdd, Nat.zero_add] at c14s)
            try have c14s2 := eq_false (Nat.not_lt.2 c14s)
            by_cases c15 : (a0 ++ (⟨#[10]⟩ : ByteArray)).size + a1.size ≤ 9223372036854775807
            · rw [if_pos c15] at H
              have c15b0 := eq_true c15
              have c15b1 : decide ((a0 ++ (⟨#[10]⟩ : ByteArray)).size + a1.size ≤ 9223372036854775807) = true := decide_eq_true c15
              try have c15b2 : (9223372036854775807 < (a0 ++ (⟨#[10]⟩ : ByteArray)).size + a1.size) = False := eq_false (Nat.not_lt.2 c15)
              try (have c15s := c15; simp only [ByteArray.size_append, bsize_mk, List.size_toArray, List.length_cons, List.length_nil, Nat.reduceAdd, Nat.zero_add] at c15s)
              try have c15s2 := eq_false (Nat.not_lt.2 c15s)
              replace H := Option.bind_eq_some_iff.mp H
              obtain ⟨⟨t324, t325, t326⟩, A160, H⟩ := H
              replace H : (if t316 = 0 then (if t321 = 0 then (if t326 = 0 then (switchyardlaw07_LexGlues.j1 kj4 a0 t314 t319 t324 ((t324.length : Int) != (wrap64 ((wrap64 ((t314.length : Int) + (t319.length : Int))) - 1)))) else (switchyardlaw07_LexGlues.j1 kj4 a0 t314 t319 t324 true)) else ((switchyardlaw07_awake.f kj4).bind fun t330 => (if t330 = true then (some (t326 == 24)) else (none)))) else ((switchyardlaw07_awake.f kj4).bind fun t329 => (if t329 = true then (if t326 = 0 then (some true) else (some (decide (t325 ≥ t315)))) else (none)))) = some r := H
              have A16 := Aside0.mk A160
              clear A160
              by_cases c17 : t316 = 0
              · rw [if_pos c17] at H
                have c17b0 : (t316 == 0) = true := beq_iff_eq.mpr c17
                have c17b1 : (t316 != 0) = false := bne_eq_false_iff_eq.mpr c17
                clear c17
                by_cases c18 : t321 = 0
                · rw [if_pos c18] at H
                  have c18b0 : (t321 == 0) = true := beq_iff_eq.mpr c18
                  have c18b1 : (t321 != 0) = false := bne_eq_false_iff_eq.mpr c18
                  clear c18
                  have HC19 := Aside0.mk H
                  clear H
                  go_upto_region 12 with (first | (go_at_call 8; refine calls_of_args (args' := #[.string a0]) (by first | rfl) ?_; (with_reducible refine (lex_Scan.calls kj4 a0 t314 t315 t316 _ A12.out (Tabs.below HT.out (by repeat (first | (with_reducible first | exact HB.out | apply below_alloc | apply pw_below_drewN | apply below_drew1) | exact HB.out)))).mono ?_); rintro e w20 ⟨v317, rfl, ho0, hb⟩; have n0_ := Aside0.mk (Kd.R_lower ho0 (below_size (by repeat (first | (with_reducible first | exact HB.out | apply below_alloc | apply pw_below_drewN | apply below_drew1) | exact HB.out)))); have n1_ := Aside0.mk (below_step (by repeat (first | (with_reducible first | exact HB.out | apply below_alloc | apply pw_below_drewN | apply below_drew1) | exact HB.out)) hb); clear HB; have HO318 := n0_; have HB := n1_; clear n0_ n1_; (try clear hb); (try clear hb2); (try clear hk); (try clear hi); (try clear ho0)) | (go_at_call 8; refine calls_of_args (args' := #[.string a1]) (by first | rfl) ?_; (with_reducible refine (lex_Scan.calls kj4 a1 t319 t320 t321 _ A13.out (Tabs.below HT.out (by repeat (first | (with_reducible first | exact HB.out | apply below_alloc | apply pw_below_drewN | apply below_drew1) | exact HB.out)))).mono ?_); rintro e w21 ⟨v322, rfl, ho0, hb⟩; have n0_ := Aside0.mk (Kd.R_elder' (by (with_reducible repeat (first | apply Kd.R_alloc | apply Kd.R_drewN | apply Kd.R_drew)); exact HO318.out) (Kd.R_base ho0) hb); have n1_ := Aside0.mk (Kd.R_lower (Kd.R_new' ho0 (Kd.R_lt (by (with_reducible repeat (first | apply Kd.R_alloc | apply Kd.R_drewN | apply Kd.R_drew)); exact HO318.out))) (below_size (by repeat (first | (with_reducible first | exact HB.out | apply below_alloc | apply pw_below_drewN | apply below_drew1) | exact HB.out)))); have n2_ := Aside0.mk (below_step (by repeat (first | (with_reducible first | exact HB.out | apply below_alloc | apply pw_below_drewN | apply below_drew1) | exact HB.out)) hb); clear HO318; clear HB; have HO318 := n0_; have HO323 := n1_; have HB := n2_; clear n0_ n1_ n2_; (try clear hb); (try clear hb2); (try clear hk); (try clear hi); (try clear ho0)) | (go_at_call 8; refine calls_of_args (args' := #[.string ((a0 ++ (⟨#[10]⟩ : ByteArray)) ++ a1)]) (by first | rfl) ?_; (with_reducible refine (lex_Scan.calls kj4 ((a0 ++ (⟨#[10]⟩ : ByteArray)) ++ a1) t324 t325 t326 _ A16.out (Tabs.below HT.out (by repeat (first | (with_reducible first | exact HB.out | apply below_alloc | apply pw_below_drewN | apply below_drew1) | exact HB.out)))).mono ?_); rintro e w22 ⟨v327, rfl, ho0, hb⟩; have n0_ := Aside0.mk (Kd.R_elder' (by (with_reducible repeat (first | apply Kd.R_alloc | apply Kd.R_drewN | apply Kd.R_drew)); exact HO318.out) (Kd.R_base ho0) hb); have n1_ := Aside0.mk (Kd.R_elder' (by (with_reducible repeat (first | apply Kd.R_alloc | apply Kd.R_drewN | apply Kd.R_drew)); exact HO323.out) (Kd.R_base ho0) hb); have n2_ := Aside0.mk (Kd.R_lower (Kd.R_new' (Kd.R_new' ho0 (Kd.R_lt (by (with_reducible repeat (first | apply Kd.R_alloc | apply Kd.R_drewN | apply Kd.R_drew)); exact HO318.out))) (Kd.R_lt (by (with_reducible repeat (first | apply Kd.R_alloc | apply Kd.R_drewN | apply Kd.R_drew)); exact HO323.out))) (below_size (by repeat (first | (with_reducible first | exact HB.out | apply below_alloc | apply pw_below_drewN | apply below_drew1) | exact HB.out)))); have n3_ := Aside0.mk (below_step (by repeat (first | (with_reducible first | exact HB.out | apply below_alloc | apply pw_below_drewN | apply below_drew1) | exact HB.out)) hb); clear HO318; clear HO323; clear HB; have HO318 := n0_; have HO323 := n1_; have HO328 := n2_; have HB := n3_; clear n0_ n1_ n2_ n3_; (try clear hb); (try clear hb2); (try clear hk); (try clear hi); (try clear ho0)))
                  repeat (go_quiet (first | (go_at_call 8; refine calls_of_args (args' := #[.string a0]) (by first | rfl) ?_; (with_reducible refine (lex_Scan.calls kj4 a0 t314 t315 t316 _ A12.out (Tabs.below HT.out (by repeat (first | (with_reducible first | exact HB.out | apply below_alloc | apply pw_below_drewN | apply below_drew1) | exact HB.out)))).mono ?_); rintro e w20 ⟨v317, rfl, ho0, hb⟩; have n0_ := Aside0.mk (Kd.R_lower ho0 (below_size (by repeat (first | (with_reducible first | exact HB.out | apply below_alloc | apply pw_below_drewN | apply below_drew1) | exact HB.out)))); have n1_ := Aside0.mk (below_step (by repeat (first | (with_reducible first | exact HB.out | apply below_alloc | apply pw_below_drewN | apply below_drew1) | exact HB.out)) hb); clear HB; have HO318 := n0_; have HB := n1_; clear n0_ n1_; (try clear hb); (try clear hb2); (try clear hk); (try clear hi); (try clear ho0)) | (go_at_call 8; refine calls_of_args (args' := #[.string a1]) (by first | rfl) ?_; (with_reducible refine (lex_Scan.calls kj4 a1 t319 t320 t321 _ A13.out (Tabs.below HT.out (by repeat (first | (with_reducible first | exact HB.out | apply below_alloc | apply pw_below_drewN | apply below_drew1) | exact HB.out)))).mono ?_); rintro e w21 ⟨v322, rfl, ho0, hb⟩; have n0_ := Aside0.mk (Kd.R_elder' (by (with_reducible repeat (first | apply Kd.R_alloc | apply Kd.R_drewN | apply Kd.R_drew)); exact HO318.out) (Kd.R_base ho0) hb); have n1_ := Aside0.mk (Kd.R_lower (Kd.R_new' ho0 (Kd.R_lt (by (with_reducible repeat (first | apply Kd.R_alloc | apply Kd.R_drewN | apply Kd.R_drew)); exact HO318.out))) (below_size (by repeat (first | (with_reducible first | exact HB.out | apply below_alloc | apply pw_below_drewN | apply below_drew1) | exact HB.out)))); have n2_ := Aside0.mk (below_step (by repeat (first | (with_reducible first | exact HB.out | apply below_alloc | apply pw_below_drewN | apply below_drew1) | exact HB.out)) hb); clear HO318; clear HB; have HO318 := n0_; have HO323 := n1_; have HB := n2_; clear n0_ n1_ n2_; (try clear hb); (try clear hb2); (try clear hk); (try clear hi); (try clear ho0)) | (go_at_call 8; refine calls_of_args (args' := #[.string ((a0 ++ (⟨#[10]⟩ : ByteArray)) ++ a1)]) (by first | rfl) ?_; (with_reducible refine (lex_Scan.calls kj4 ((a0 ++ (⟨#[10]⟩ : ByteArray)) ++ a1) t324 t325 t326 _ A16.out (Tabs.below HT.out (by repeat (first | (with_reducible first | exact HB.out | apply below_alloc | apply pw_below_drewN | apply below_drew1) | exact HB.out)))).mono ?_); rintro e w22 ⟨v327, rfl, ho0, hb⟩; have n0_ := Aside0.mk (Kd.R_elder' (by (with_reducible repeat (first | apply Kd.R_alloc | apply Kd.R_drewN | apply Kd.R_drew)); exact HO318.out) (Kd.R_base ho0) hb); have n1_ := Aside0.mk (Kd.R_elder' (by (with_reducible repeat (first | apply Kd.R_alloc | apply Kd.R_drewN | apply Kd.R_drew)); exact HO323.out) (Kd.R_base ho0) hb); have n2_ := Aside0.mk (Kd.R_lower (Kd.R_new' (Kd.R_new' ho0 (Kd.R_lt (by (with_reducible repeat (first | apply Kd.R_alloc | apply Kd.R_drewN | apply Kd.R_drew)); exact HO318.out))) (Kd.R_lt (by (with_reducible repeat (first | apply Kd.R_alloc | apply Kd.R_drewN | apply Kd.R_drew)); exact HO323.out))) (below_size (by repeat (first | (with_reducible first | exact HB.out | apply below_alloc | apply pw_below_drewN | apply below_drew1) | exact HB.out)))); have n3_ := Aside0.mk (below_step (by repeat (first | (with_reducible first | exact HB.out | apply below_alloc | apply pw_below_drewN | apply below_drew1) | exact HB.out)) hb); clear HO318; clear HO323; clear HB; have HO318 := n0_; have HO323 := n1_; have HO328 := n2_; have HB := n3_; clear n0_ n1_ n2_ n3_; (try clear hb); (try clear hb2); (try clear hk); (try clear hi); (try clear ho0))); go_upto_region 12 with (first | (go_at_call 8; refine calls_of_args (args' := #[.string a0]) (by first | rfl) ?_; (with_reducible refine (lex_Scan.calls kj4 a0 t314 t315 t316 _ A12.out (Tabs.below HT.out (by repeat (first | (with_reducible first | exact HB.out | apply below_alloc | apply pw_below_drewN | apply below_drew1) | exact HB.out)))).mono ?_); rintro e w20 ⟨v317, rfl, ho0, hb⟩; have n0_ := Aside0.mk (Kd.R_lower ho0 (below_size (by repeat (first | (with_reducible first | exact HB.out | apply below_alloc | apply pw_below_drewN | apply below_drew1) | exact HB.out)))); have n1_ := Aside0.mk (below_step (by repeat (first | (with_reducible first | exact HB.out | apply below_alloc | apply pw_below_drewN | apply below_drew1) | exact HB.out)) hb); clear HB; have HO318 := n0_; have HB := n1_; clear n0_ n1_; (try clear hb); (try clear hb2); (try clear hk); (try clear hi); (try clear ho0)) | (go_at_call 8; refine calls_of_args (args' := #[.string a1]) (by first | rfl) ?_; (with_reducible refine (lex_Scan.calls kj4 a1 t319 t320 t321 _ A13.out (Tabs.below HT.out (by repeat (first | (with_reducible first | exact HB.out | apply below_alloc | apply pw_below_drewN | apply below_drew1) | exact HB.out)))).mono ?_); rintro e w21 ⟨v322, rfl, ho0, hb⟩; have n0_ := Aside0.mk (Kd.R_elder' (by (with_reducible repeat (first | apply Kd.R_alloc | apply Kd.R_drewN | apply Kd.R_drew)); exact HO318.out) (Kd.R_base ho0) hb); have n1_ := Aside0.mk (Kd.R_lower (Kd.R_new' ho0 (Kd.R_lt (by (with_reducible repeat (first | apply Kd.R_alloc | apply Kd.R_drewN | apply Kd.R_drew)); exact HO318.out))) (below_size (by repeat (first | (with_reducible first | exact HB.out | apply below_alloc | apply pw_below_drewN | apply below_drew1) | exact HB.out)))); have n2_ := Aside0.mk (below_step (by repeat (first | (with_reducible first | exact HB.out | apply below_alloc | apply pw_below_drewN | apply below_drew1) | exact HB.out)) hb); clear HO318; clear HB; have HO318 := n0_; have HO323 := n1_; have HB := n2_; clear n0_ n1_ n2_; (try clear hb); (try clear hb2); (try clear hk); (try clear hi); (try clear ho0)) | (go_at_call 8; refine calls_of_args (args' := #[.string ((a0 ++ (⟨#[10]⟩ : ByteArray)) ++ a1)]) (by first | rfl) ?_; (with_reducible refine (lex_Scan.calls kj4 ((a0 ++ (⟨#[10]⟩ : ByteArray)) ++ a1) t324 t325 t326 _ A16.out (Tabs.below HT.out (by repeat (first | (with_reducible first | exact HB.out | apply below_alloc | apply pw_below_drewN | apply below_drew1) | exact HB.out)))).mono ?_); rintro e w22 ⟨v327, rfl, ho0, hb⟩; have n0_ := Aside0.mk (Kd.R_elder' (by (with_reducible repeat (first | apply Kd.R_alloc | apply Kd.R_drewN | apply Kd.R_drew)); exact HO318.out) (Kd.R_base ho0) hb); have n1_ := Aside0.mk (Kd.R_elder' (by (with_reducible repeat (first | apply Kd.R_alloc | apply Kd.R_drewN | apply Kd.R_drew)); exact HO323.out) (Kd.R_base ho0) hb); have n2_ := Aside0.mk (Kd.R_lower (Kd.R_new' (Kd.R_new' ho0 (Kd.R_lt (by (with_reducible repeat (first | apply Kd.R_alloc | apply Kd.R_drewN | apply Kd.R_drew)); exact HO318.out))) (Kd.R_lt (by (with_reducible repeat (first | apply Kd.R_alloc | apply Kd.R_drewN | apply Kd.R_drew)); exact HO323.out))) (below_size (by repeat (first | (with_reducible first | exact HB.out | apply below_alloc | apply pw_below_drewN | apply below_drew1) | exact HB.out)))); have n3_ := Aside0.mk (below_step (by repeat (first | (with_reducible first | exact HB.out | apply below_alloc | apply pw_below_drewN | apply below_drew1) | exact HB.out)) hb); clear HO318; clear HO323; clear HB; have HO318 := n0_; have HO323 := n1_; have HO328 := n2_; have HB := n3_; clear n0_ n1_ n2_ n3_; (try clear hb); (try clear hb2); (try clear hk); (try clear hi); (try clear ho0))))
                  (try simp only [Act.put, List.setIfInBounds_toArray, List.set_cons_zero, List.set_cons_succ])
                  go_cut [87] (fun v87 wc => ∃ (kq : Nat) (x87_18 : Bool), v87 = .bool x87_18 ∧ Aside0 (switchyardlaw07_LexGlues.j1 kq a0 t314 t319 t324 x87_18 = some r) ∧ Aside0 (kq ≤ kj4) ∧ Aside0 (Kd.R k32 32 wc w.heap.size (fun k_ => some k_ ≠ (v322 : Value).ownBlock ∧ some k_ ≠ (v327 : Value).ownBlock) v317 t314) ∧ Aside0 (Kd.R k32 32 wc w.heap.size (fun k_ => some k_ ≠ (v317 : Value).ownBlock ∧ some k_ ≠ (v327 : Value).ownBlock) v322 t319) ∧ Aside0 (Kd.R k32 32 wc w.heap.size (fun k_ => some k_ ≠ (v317 : Value).ownBlock ∧ some k_ ≠ (v322 : Value).ownBlock) v327 t324) ∧ Aside0 (Below w.heap.size w wc))
                  case first =>
                    have H := HC19.out
                    clear HC19
                    by_cases c23 : t326 = 0
                    · rw [if_pos c23] at H
                      have c23b0 : (t326 == 0) = true := beq_iff_eq.mpr c23
                      have c23b1 : (t326 != 0) = false := bne_eq_false_iff_eq.mpr c23
                      clear c23
                      (first | rw [c23b0] | (simp only [i64_w, i32_w]; rw [c23b0]) | skip)
                      have H' := Aside0.mk H
                      clear H
                      obtain ⟨Ao24, co24, eo24⟩ := Kd.R_slice HO328.out
                      subst eo24
                      obtain ⟨Ao25, co25, eo25⟩ := Kd.R_slice HO318.out
                      subst eo25
                      obtain ⟨Ao26, co26, eo26⟩ := Kd.R_slice HO323.out
                      subst eo26
                      go_wp2
                      repeat (go_quiet (fail); try go_wp2)
                      go_meet
                      case rel => exact ⟨_, (((t324.length : Int) != (wrap64 ((wrap64 ((t314.length : Int) + (t319.length : Int))) - 1)))), (by first | rfl | (simp; done) | (simp [*]; done)), H', ⟨by have := HJ4.out; first | omega | exact Nat.le_refl _⟩, ⟨by (with_reducible repeat (first | apply Kd.R_alloc | apply Kd.R_drewN | apply Kd.R_drew)); exact Kd.R_mono HO318.out (fun _ hk => ⟨hk.1.2, hk.2⟩)⟩, ⟨by (with_reducible repeat (first | apply Kd.R_alloc | apply Kd.R_drewN | apply Kd.R_drew)); exact Kd.R_mono HO323.out (fun _ hk => ⟨hk.1.2, hk.2⟩)⟩, ⟨by (with_reducible repeat (first | apply Kd.R_alloc | apply Kd.R_drewN | apply Kd.R_drew)); exact Kd.R_mono HO328.out (fun _ hk => ⟨hk.1.2, hk.2⟩)⟩, ⟨by repeat (first | (with_reducible first | exact HB.out | apply below_alloc | apply pw_below_drewN | apply below_drew1) | exact HB.out)⟩⟩
                    · rw [if_neg c23] at H
                      have c23b0 : (t326 == 0) = false := beq_eq_false_iff_ne.mpr c23
                      have c23b1 : (t326 != 0) = true := bne_iff_ne.mpr c23
                      (first | rw [c23b0] | (simp only [i64_w, i32_w]; rw [c23b0]) | skip)
                      have H' := Aside0.mk H
                      clear H
                      go_wp2
                      repeat (go_quiet (fail); try go_wp2)
                      go_meet
                      case rel => exact ⟨_, (true), (by first | rfl | (simp; done) | (simp [*]; done)), H', ⟨by have := HJ4.out; first | omega | exact Nat.le_refl _⟩, ⟨by (with_reducible repeat (first | apply Kd.R_alloc | apply Kd.R_drewN | apply Kd.R_drew)); exact Kd.R_mono HO318.out (fun _ hk => ⟨hk.1.2, hk.2⟩)⟩, ⟨by (with_reducible repeat (first | apply Kd.R_alloc | apply Kd.R_drewN | apply Kd.R_drew)); exact Kd.R_mono HO323.out (fun _ hk => ⟨hk.1.2, hk.2⟩)⟩, ⟨by (with_reducible repeat (first | apply Kd.R_alloc | apply Kd.R_drewN | apply Kd.R_drew)); exact Kd.R_mono HO328.out (fun _ hk => ⟨hk.1.2, hk.2⟩)⟩, ⟨by repeat (first | (with_reducible first | exact HB.out | apply below_alloc | apply pw_below_drewN | apply below_drew1) | exact HB.out)⟩⟩
                  case rest =>
                    clear HC19
                    try clear c1
                    try clear c2
                    try clear p2
                    try clear c4
                    try clear c5
                    try clear p6
                    try clear c7
                    try clear c7b0
                    try clear c8
                    try clear c8b0
                    try clear c8b1
                    try clear c9
                    try clear c14
                    try clear c14b0
                    try clear c14b1
                    try clear c14b2
                    try clear c15
                    try clear c15b0
                    try clear c15b1
                    try clear c15b2
                    try clear c17
                    try clear c17b0
                    try clear c17b1
                    try clear c18
                    try clear c18b0
                    try clear c18b1
                    try clear c23
                    try clear c23b0
                    try clear c23b1
                    try clear p2
                    try clear p6
                    obtain ⟨kq, x87_18, rfl, HA, HJ18, HO_5, HO_8, HO_11, HB⟩ := hcut
                    cases kq with
                    | zero => exact absurd HA.out (by simp [switchyardlaw07_LexGlues.j1])
                    | succ kj18 =>
                      have H := HA.out
                      clear HA
                      simp only [switchyardlaw07_LexGlues.j1] at H
                      by_cases c27 : x87_18 = true
                      · subst c27
                        have H1 : (none) = some r := by rw [if_pos rfl] at H; exact H
                        clear H
                        have H := H1
                        clear H1
                        exact absurd H (by simp)
                      · replace c27 := Bool.eq_false_iff.mpr c27
                        subst c27
                        have H1 : (switchyardlaw07_LexGlues.l0 kj18 a0 t314 t319 t324 (t324.length : Int) 0) = some r := by rw [if_neg (show ¬ (false = true) by decide)] at H; exact H
                        clear H
                        have H := H1
                        clear H1
                        have H' := Aside0.mk H
                        clear H
                        obtain ⟨Ao28, co28, eo28⟩ := Kd.R_slice HO_11.out
                        subst eo28
                        go_wp2
                        repeat (go_quiet (fail); try go_wp2)
                        go_loopg [90] kj18 (fun kq v90 w' => ∃ (x90_3 : Int), v90 = .int .i64 x90_3 ∧ Aside0 (switchyardlaw07_LexGlues.l0 kq a0 t314 t319 t324 (t324.length : Int) x90_3 = some r) ∧ Aside0 (kq ≤ kj18) ∧ Aside0 (Kd.R k32 32 w' w.heap.size (fun k_ => some k_ ≠ (v322 : Value).ownBlock ∧ some k_ ≠ ((.slice Ao28 t324.length co28) : Value).ownBlock) v317 t314) ∧ Aside0 (Kd.R k32 32 w' w.heap.size (fun k_ => some k_ ≠ (v317 : Value).ownBlock ∧ some k_ ≠ ((.slice Ao28 t324.length co28) : Value).ownBlock) v322 t319) ∧ Aside0 (Kd.R k32 32 w' w.heap.size (fun k_ => some k_ ≠ (v317 : Value).ownBlock ∧ some k_ ≠ (v322 : Value).ownBlock) (.slice Ao28 t324.length co28) t324) ∧ Aside0 (Below w.heap.size w w'))
                        case atStart => exact ⟨(0), (by first | rfl | (simp; done) | (simp [*]; done)), H', ⟨Nat.le_refl _⟩, ⟨by (with_reducible repeat (first | apply Kd.R_alloc | apply Kd.R_drewN | apply Kd.R_drew)); exact HO_5.out⟩, ⟨by (with_reducible repeat (first | apply Kd.R_alloc | apply Kd.R_drewN | apply Kd.R_drew)); exact HO_8.out⟩, ⟨by (with_reducible repeat (first | apply Kd.R_alloc | apply Kd.R_drewN | apply Kd.R_drew)); exact HO_11.out⟩, ⟨by repeat (first | (with_reducible first | exact HB.out | apply below_alloc | apply pw_below_drewN | apply below_drew1) | exact HB.out)⟩⟩
                        case round =>
                          clear H'
                          try clear c1
                          try clear c2
                          try clear p2
                          try clear c4
                          try clear c5
                          try clear p6
                          try clear c7
                          try clear c7b0
                          try clear c8
                          try clear c8b0
                          try clear c8b1
                          try clear c9
                          try clear c14
                          try clear c14b0
                          try clear c14b1
                          try clear c14b2
                          try clear c15
                          try clear c15b0
                          try clear c15b1
                          try clear c15b2
                          try clear c17
                          try clear c17b0
                          try clear c17b1
                          try clear c18
                          try clear c18b0
                          try clear c18b1
                          try clear c23
                          try clear c23b0
                          try clear c23b1
                          try clear c27
                          try clear p2
                          try clear p6
                          obtain ⟨x90_3, rfl, HA, HK3, HO_5, HO_8, HO_11, HB⟩ := hrel
                          cases gk with
                          | zero => exact absurd HA.out (by simp [switchyardlaw07_LexGlues.l0])
                          | succ k3 =>
                            have H := HA.out
                            clear HA
                            simp only [switchyardlaw07_LexGlues.l0] at H
                            by_cases c29 : x90_3 < (t324.length : Int)
                            · rw [if_pos c29] at H
                              have c29b0 : decide (x90_3 < (t324.length : Int)) = true := decide_eq_true c29
                              clear c29
                              by_cases c30 : x90_3 < (wrap64 ((t314.length : Int) - 1))
                              · rw [if_pos c30] at H
                                have c30b0 : decide (x90_3 < (wrap64 ((t314.length : Int) - 1))) = true := decide_eq_true c30
                                clear c30
                                by_cases c31 : 0 ≤ x90_3
                                · rw [if_pos c31] at H
                                  have c31b0 : decide (0 ≤ x90_3) = true := decide_eq_true c31
                                  clear c31
                                  by_cases c32 : x90_3 < (t314.length : Int)
                                  · rw [if_pos c32] at H
                                    have c32b0 : decide (x90_3 < (t314.length : Int)) = true := decide_eq_true c32
                                    clear c32
                                    by_cases c33 : x90_3 < (t324.length : Int)
                                    · rw [if_pos c33] at H
                                      have c33b0 : decide (x90_3 < (t324.length : Int)) = true := decide_eq_true c33
                                      clear c33
                                      by_cases c34 : (!(((rd_T32 t324 x90_3).f0) == ((rd_T32 t314 x90_3).f0)) || (!((((rd_T32 t324 x90_3).f1).toList) == (((rd_T32 t314 x90_3).f1).toList)) || (!(((rd_T32 t324 x90_3).f2) == ((rd_T32 t314 x90_3).f2)) || (!(((rd_T32 t324 x90_3).f3) == ((rd_T32 t314 x90_3).f3)))))) = true
                                      · rw [if_pos c34] at H
                                        exact absurd H (by simp)
                                      · rw [if_neg c34] at H
                                        have c34b0 : (!(((rd_T32 t324 x90_3).f0) == ((rd_T32 t314 x90_3).f0)) || (!((((rd_T32 t324 x90_3).f1).toList) == (((rd_T32 t314 x90_3).f1).toList)) || (!(((rd_T32 t324 x90_3).f2) == ((rd_T32 t314 x90_3).f2)) || (!(((rd_T32 t324 x90_3).f3) == ((rd_T32 t314 x90_3).f3)))))) = false := by simpa using c34
                                        clear c34
                                        have H' := Aside0.mk H
                                        clear H
                                        go_wp2_with (first
                                          | ((with_reducible refine gate_dst (N := 15) rfl ?_); (try (refine gate_guard (by rfl) ?_; dsimp only)); refine box_event ?hg (N := 15) ?hd (cs := #[.int .i64 0, .string (⟨#[]⟩ : ByteArray), .int .i64 0, .int .i64 0]) (t := 32) ?hr ?_; (case hd => rfl); (case hg => rfl); (case hr => first | (go_simp; done) | (go_simp; rfl)); intro gb332 hg w35 hbox hb; have n0_ := Aside0.mk (Kd.R_below (Kd.R_elderB (by (with_reducible repeat (first | apply Kd.R_alloc | apply Kd.R_drewN | apply Kd.R_drew)); exact HO_5.out) gb332 (Nat.le_of_eq hg.symm)) hb); have n1_ := Aside0.mk (Kd.R_below (Kd.R_elderB (by (with_reducible repeat (first | apply Kd.R_alloc | apply Kd.R_drewN | apply Kd.R_drew)); exact HO_8.out) gb332 (Nat.le_of_eq hg.symm)) hb); have n2_ := Aside0.mk (Kd.R_below (Kd.R_elderB (by (with_reducible repeat (first | apply Kd.R_alloc | apply Kd.R_drewN | apply Kd.R_drew)); exact HO_11.out) gb332 (Nat.le_of_eq hg.symm)) hb); have n3_ := Aside0.mk (below_step (by repeat (first | (with_reducible first | exact HB.out | apply below_alloc | apply pw_below_drewN | apply below_drew1) | exact HB.out)) hb); have n4_ := Aside0.mk (hbox); have n5_ := Aside0.mk ((by rw [hg]; exact (below_size (by repeat (first | (with_reducible first | exact HB.out | apply below_alloc | apply pw_below_drewN | apply below_drew1) | exact HB.out))) : w.heap.size ≤ gb332)); have n6_ := Aside0.mk ((by rw [hg]; exact (below_size (by repeat (first | (with_reducible first | exact HB.out | apply below_alloc | apply pw_below_drewN | apply below_drew1) | exact HB.out))) : w.heap.size ≤ gb332)); clear HO_5; clear HO_8; clear HO_11; clear HB; have HO_5 := n0_; have HO_8 := n1_; have HO_11 := n2_; have HB := n3_; have BK332 := n4_; have GW332 := n5_; have GE332 := n6_; clear n0_ n1_ n2_ n3_ n4_ n5_ n6_; clear hb hbox hg; obtain ⟨Ao36, co36, eo36⟩ := Kd.R_slice HO_5.out; subst eo36; have p333 : 0 ≤ (x90_3 : Int) := of_decide_eq_true (by first | (with_reducible assumption) | assumption); have q333 : x90_3 < (t314.length : Int) := of_decide_eq_true (by first | (with_reducible assumption) | assumption); obtain ⟨ad333, e333, hx333_0, hx333_1, hx333_2, hx333_3⟩ := at_T32 (Kd.R_reads' HO_5.out).2.2 x90_3 p333 q333; cases e333; replace p333 := eq_true p333; replace q333 := eq_true q333)
                                          | ((with_reducible refine gate_store (t := 32) (p := 15) (v := .tmp 101) rfl ?_); refine store32 (g := gb332) (seg := [.int .i64 (rd_T32 t314 x90_3).f0, .string (rd_T32 t314 x90_3).f1, .int .i64 (rd_T32 t314 x90_3).f2, .int .i64 (rd_T32 t314 x90_3).f3]) rfl rfl rfl rfl rfl rfl rfl (by simp [Value.oneCell']) BK332.out rfl ?_; intro w36 ho36 hn36; have m0_ := Aside0.mk (R_only HO_5.out ho36 (fun _ hk => hk.2)); have m1_ := Aside0.mk (R_only HO_8.out ho36 (fun _ hk => hk.2)); have m2_ := Aside0.mk (R_only HO_11.out ho36 (fun _ hk => hk.2)); have m3_ := Aside0.mk (Only.below HB.out ho36 GE332.out); clear HO_5 HO_8 HO_11 HB BK332; have HO_5 := m0_; have HO_8 := m1_; have HO_11 := m2_; have HB := m3_; have BK332 := Aside0.mk hn36; clear m0_ m1_ m2_ m3_ ho36 hn36; (try clear hx333_0 hx333_1 hx333_2 hx333_3); have p334 : 0 ≤ (x90_3 : Int) := of_decide_eq_true (by first | (with_reducible assumption) | assumption); have q334 : x90_3 < (t324.length : Int) := of_decide_eq_true (by first | (with_reducible assumption) | assumption); obtain ⟨ad334, e334, hx334_0, hx334_1, hx334_2, hx334_3⟩ := at_T32 (Kd.R_reads' HO_11.out).2.2 x90_3 p334 q334; cases e334; replace p334 := eq_true p334; replace q334 := eq_true q334; have hcz_0 := (blk_cell BK332.out 0).trans rfl; simp only [List.getElem?_toArray, List.getElem?_cons_zero, List.getElem?_cons_succ] at hcz_0; have hcz_1 := (blk_cell BK332.out 1).trans rfl; simp only [List.getElem?_toArray, List.getElem?_cons_zero, List.getElem?_cons_succ] at hcz_1; have hcz_2 := (blk_cell BK332.out 2).trans rfl; simp only [List.getElem?_toArray, List.getElem?_cons_zero, List.getElem?_cons_succ] at hcz_2; have hcz_3 := (blk_cell BK332.out 3).trans rfl; simp only [List.getElem?_toArray, List.getElem?_cons_zero, List.getElem?_cons_succ] at hcz_3; have hy334_0 := fun (n_ : Nat) => (show (w36.drewN n_).cell? _ = some _ from hx334_0); have hcy_0 := fun (n_ : Nat) => (show (w36.drewN n_).cell? _ = some _ from hcz_0); have hy334_1 := fun (n_ : Nat) => (show (w36.drewN n_).cell? _ = some _ from hx334_1); have hcy_1 := fun (n_ : Nat) => (show (w36.drewN n_).cell? _ = some _ from hcz_1); have hy334_2 := fun (n_ : Nat) => (show (w36.drewN n_).cell? _ = some _ from hx334_2); have hcy_2 := fun (n_ : Nat) => (show (w36.drewN n_).cell? _ = some _ from hcz_2); have hy334_3 := fun (n_ : Nat) => (show (w36.drewN n_).cell? _ = some _ from hx334_3); have hcy_3 := fun (n_ : Nat) => (show (w36.drewN n_).cell? _ = some _ from hcz_3)))
                                        repeat (go_quiet (fail); try go_wp2)
                                        go_roundg k3
                                        case measure => have := HJ4.out; have := HJ18.out; have := HK3.out; omega
                                        case rel => exact ⟨(wrap64 (x90_3 + 1)), (by first | rfl | (simp; done) | (simp [*]; done)), H', ⟨by have := HJ4.out; have := HJ18.out; have := HK3.out; omega⟩, ⟨by (with_reducible repeat (first | apply Kd.R_alloc | apply Kd.R_drewN | apply Kd.R_drew)); exact Kd.R_mono HO_5.out (fun _ hk => ⟨hk.1.1, hk.1.2⟩)⟩, ⟨by (with_reducible repeat (first | apply Kd.R_alloc | apply Kd.R_drewN | apply Kd.R_drew)); exact Kd.R_mono HO_8.out (fun _ hk => ⟨hk.1.1, hk.1.2⟩)⟩, ⟨by (with_reducible repeat (first | apply Kd.R_alloc | apply Kd.R_drewN | apply Kd.R_drew)); exact Kd.R_mono HO_11.out (fun _ hk => ⟨hk.1.1, hk.1.2⟩)⟩, ⟨by repeat (first | (with_reducible first | exact HB.out | apply below_alloc | apply pw_below_drewN | apply below_drew1) | exact HB.out)⟩⟩
                                    · rw [if_neg c33] at H
                                      exact absurd H (by simp)
                                  · rw [if_neg c32] at H
                                    exact absurd H (by simp)
                                · rw [if_neg c31] at H
                                  exact absurd H (by simp)
                              · rw [if_neg c30] at H
                                have c30b0 : decide (x90_3 < (wrap64 ((t314.length : Int) - 1))) = false := decide_eq_false c30
                                clear c30
                                obtain ⟨ji38, hji38⟩ : ∃ j_ : Int, (wrap64 ((wrap64 (x90_3 - (t314.length : Int))) + 1)) = j_ := ⟨_, rfl⟩
                                replace H : (if 0 ≤ (ji38) then (if (ji38) < (t319.length : Int) then (if 0 ≤ x90_3 then (if x90_3 < (t324.length : Int) then (if (!(((rd_T32 t324 x90_3).f0) == ((rd_T32 t319 (ji38)).f0)) || (!((((rd_T32 t324 x90_3).f1).toList) == (((rd_T32 t319 (ji38)).f1).toList)) || (!(((rd_T32 t324 x90_3).f2) == ((rd_T32 t319 (ji38)).f2)) || (!(((rd_T32 t324 x90_3).f3) == (wrap64 (((rd_T32 t319 (ji38)).f3) + (wrap64 ((a0.size : Int) + 1))))))))) = true then (none) else (switchyardlaw07_LexGlues.l0 k3 a0 t314 t319 t324 (t324.length : Int) (wrap64 (x90_3 + 1)))) else (none)) else (none)) else (none)) else (none)) = some r := by first | (rw [hji38] at H; exact H) | (simp only [hji38] at H ⊢; exact H)
                                have hji38w : (IntKind.i64.wrap ((wrap64 (x90_3 - (t314.length : Int))) + 1)) = ji38 := (i64_w _).trans hji38
                                by_cases c39 : 0 ≤ (ji38)
                                · rw [if_pos c39] at H
                                  have c39b0 : decide (0 ≤ (ji38)) = true := decide_eq_true c39
                                  clear c39
                                  by_cases c40 : (ji38) < (t319.length : Int)
                                  · rw [if_pos c40] at H
                                    have c40b0 : decide ((ji38) < (t319.length : Int)) = true := decide_eq_true c40
                                    clear c40
                                    by_cases c41 : 0 ≤ x90_3
                                    · rw [if_pos c41] at H
                                      have c41b0 : decide (0 ≤ x90_3) = true := decide_eq_true c41
                                      clear c41
                                      by_cases c42 : x90_3 < (t324.length : Int)
                                      · rw [if_pos c42] at H
                                        have c42b0 : decide (x90_3 < (t324.length : Int)) = true := decide_eq_true c42
                                        clear c42
                                        by_cases c43 : (!(((rd_T32 t324 x90_3).f0) == ((rd_T32 t319 (ji38)).f0)) || (!((((rd_T32 t324 x90_3).f1).toList) == (((rd_T32 t319 (ji38)).f1).toList)) || (!(((rd_T32 t324 x90_3).f2) == ((rd_T32 t319 (ji38)).f2)) || (!(((rd_T32 t324 x90_3).f3) == (wrap64 (((rd_T32 t319 (ji38)).f3) + (wrap64 ((a0.size : Int) + 1))))))))) = true
                                        · rw [if_pos c43] at H
                                          exact absurd H (by simp)
                                        · rw [if_neg c43] at H
                                          have c43b0 : (!(((rd_T32 t324 x90_3).f0) == ((rd_T32 t319 (ji38)).f0)) || (!((((rd_T32 t324 x90_3).f1).toList) == (((rd_T32 t319 (ji38)).f1).toList)) || (!(((rd_T32 t324 x90_3).f2) == ((rd_T32 t319 (ji38)).f2)) || (!(((rd_T32 t324 x90_3).f3) == (wrap64 (((rd_T32 t319 (ji38)).f3) + (wrap64 ((a0.size : Int) + 1))))))))) = false := by simpa using c43
                                          rw [HEW.out] at c43b0
                                          clear c43
                                          have H' := Aside0.mk H
                                          clear H
                                          go_wp2_with (first
                                            | ((with_reducible refine gate_dst (N := 15) rfl ?_); (try (refine gate_guard (by rfl) ?_; dsimp only)); refine box_event ?hg (N := 15) ?hd (cs := #[.int .i64 0, .string (⟨#[]⟩ : ByteArray), .int .i64 0, .int .i64 0]) (t := 32) ?hr ?_; (case hd => rfl); (case hg => rfl); (case hr => first | (go_simp; done) | (go_simp; rfl)); intro gb332 hg w44 hbox hb; have n0_ := Aside0.mk (Kd.R_below (Kd.R_elderB (by (with_reducible repeat (first | apply Kd.R_alloc | apply Kd.R_drewN | apply Kd.R_drew)); exact HO_5.out) gb332 (Nat.le_of_eq hg.symm)) hb); have n1_ := Aside0.mk (Kd.R_below (Kd.R_elderB (by (with_reducible repeat (first | apply Kd.R_alloc | apply Kd.R_drewN | apply Kd.R_drew)); exact HO_8.out) gb332 (Nat.le_of_eq hg.symm)) hb); have n2_ := Aside0.mk (Kd.R_below (Kd.R_elderB (by (with_reducible repeat (first | apply Kd.R_alloc | apply Kd.R_drewN | apply Kd.R_drew)); exact HO_11.out) gb332 (Nat.le_of_eq hg.symm)) hb); have n3_ := Aside0.mk (below_step (by repeat (first | (with_reducible first | exact HB.out | apply below_alloc | apply pw_below_drewN | apply below_drew1) | exact HB.out)) hb); have n4_ := Aside0.mk (hbox); have n5_ := Aside0.mk ((by rw [hg]; exact (below_size (by repeat (first | (with_reducible first | exact HB.out | apply below_alloc | apply pw_below_drewN | apply below_drew1) | exact HB.out))) : w.heap.size ≤ gb332)); have n6_ := Aside0.mk ((by rw [hg]; exact (below_size (by repeat (first | (with_reducible first | exact HB.out | apply below_alloc | apply pw_below_drewN | apply below_drew1) | exact HB.out))) : w.heap.size ≤ gb332)); clear HO_5; clear HO_8; clear HO_11; clear HB; have HO_5 := n0_; have HO_8 := n1_; have HO_11 := n2_; have HB := n3_; have BK332 := n4_; have GW332 := n5_; have GE332 := n6_; clear n0_ n1_ n2_ n3_ n4_ n5_ n6_; clear hb hbox hg; obtain ⟨Ao45, co45, eo45⟩ := Kd.R_slice HO_5.out; subst eo45; obtain ⟨Ao46, co46, eo46⟩ := Kd.R_slice HO_8.out; subst eo46; have p335 : 0 ≤ ((ji38) : Int) := of_decide_eq_true (by first | (with_reducible assumption) | assumption); have q335 : (ji38) < (t319.length : Int) := of_decide_eq_true (by first | (with_reducible assumption) | assumption); obtain ⟨ad335, e335, hx335_0, hx335_1, hx335_2, hx335_3⟩ := at_T32 (Kd.R_reads' HO_8.out).2.2 (ji38) p335 q335; cases e335; replace p335 := eq_true p335; replace q335 := eq_true q335)
                                            | ((with_reducible refine gate_store (t := 32) (p := 15) (v := .tmp 109) rfl ?_); refine store32 (g := gb332) (seg := [.int .i64 (rd_T32 t319 ji38).f0, .string (rd_T32 t319 ji38).f1, .int .i64 (rd_T32 t319 ji38).f2, .int .i64 (rd_T32 t319 ji38).f3]) rfl rfl rfl rfl rfl rfl rfl (by simp [Value.oneCell']) BK332.out rfl ?_; intro w36 ho36 hn36; have m0_ := Aside0.mk (R_only HO_5.out ho36 (fun _ hk => hk.2)); have m1_ := Aside0.mk (R_only HO_8.out ho36 (fun _ hk => hk.2)); have m2_ := Aside0.mk (R_only HO_11.out ho36 (fun _ hk => hk.2)); have m3_ := Aside0.mk (Only.below HB.out ho36 GE332.out); clear HO_5 HO_8 HO_11 HB BK332; have HO_5 := m0_; have HO_8 := m1_; have HO_11 := m2_; have HB := m3_; have BK332 := Aside0.mk hn36; clear m0_ m1_ m2_ m3_ ho36 hn36; (try clear hx335_0 hx335_1 hx335_2 hx335_3); have hc3_ := (blk_cell BK332.out 3).trans rfl; simp only [List.getElem?_toArray, List.getElem?_cons_zero, List.getElem?_cons_succ] at hc3_)
                                            | ((with_reducible refine gate_dst (N := 111) rfl ?_); refine loadAt3 (g := gb332) (j := 3) (x := (rd_T32 t319 ji38).f3) rfl rfl rfl hc3_ ?_)
                                            | ((with_reducible refine gate_store (t := 3) (p := 116) (v := .tmp 115) rfl ?_); refine storeAt (g := gb332) rfl rfl rfl rfl rfl BK332.out ?_; intro w37 ho37 hn37; clear hc3_; have m0_ := Aside0.mk (R_only HO_5.out ho37 (fun _ hk => hk.2)); have m1_ := Aside0.mk (R_only HO_8.out ho37 (fun _ hk => hk.2)); have m2_ := Aside0.mk (R_only HO_11.out ho37 (fun _ hk => hk.2)); have m3_ := Aside0.mk (Only.below HB.out ho37 GE332.out); clear HO_5 HO_8 HO_11 HB BK332; have HO_5 := m0_; have HO_8 := m1_; have HO_11 := m2_; have HB := m3_; have BK332 := Aside0.mk hn37; clear m0_ m1_ m2_ m3_ ho37 hn37; have p334 : 0 ≤ (x90_3 : Int) := of_decide_eq_true (by first | (with_reducible assumption) | assumption); have q334 : x90_3 < (t324.length : Int) := of_decide_eq_true (by first | (with_reducible assumption) | assumption); obtain ⟨ad334, e334, hx334_0, hx334_1, hx334_2, hx334_3⟩ := at_T32 (Kd.R_reads' HO_11.out).2.2 x90_3 p334 q334; cases e334; replace p334 := eq_true p334; replace q334 := eq_true q334; have hcz_0 := (blk_cell BK332.out 0).trans rfl; simp only [List.getElem?_toArray, List.getElem?_cons_zero, List.getElem?_cons_succ] at hcz_0; have hcz_1 := (blk_cell BK332.out 1).trans rfl; simp only [List.getElem?_toArray, List.getElem?_cons_zero, List.getElem?_cons_succ] at hcz_1; have hcz_2 := (blk_cell BK332.out 2).trans rfl; simp only [List.getElem?_toArray, List.getElem?_cons_zero, List.getElem?_cons_succ] at hcz_2; have hcz_3 := (blk_cell BK332.out 3).trans rfl; simp only [List.getElem?_toArray, List.getElem?_cons_zero, List.getElem?_cons_succ] at hcz_3; have hy334_0 := fun (n_ : Nat) => (show (w37.drewN n_).cell? _ = some _ from hx334_0); have hcy_0 := fun (n_ : Nat) => (show (w37.drewN n_).cell? _ = some _ from hcz_0); have hy334_1 := fun (n_ : Nat) => (show (w37.drewN n_).cell? _ = some _ from hx334_1); have hcy_1 := fun (n_ : Nat) => (show (w37.drewN n_).cell? _ = some _ from hcz_1); have hy334_2 := fun (n_ : Nat) => (show (w37.drewN n_).cell? _ = some _ from hx334_2); have hcy_2 := fun (n_ : Nat) => (show (w37.drewN n_).cell? _ = some _ from hcz_2); have hy334_3 := fun (n_ : Nat) => (show (w37.drewN n_).cell? _ = some _ from hx334_3); have hcy_3 := fun (n_ : Nat) => (show (w37.drewN n_).cell? _ = some _ from hcz_3)))
                                          repeat (go_quiet (fail); try go_wp2)
                                          go_roundg k3
                                          case measure => have := HJ4.out; have := HJ18.out; have := HK3.out; omega
                                          case rel => exact ⟨(wrap64 (x90_3 + 1)), (by first | rfl | (simp; done) | (simp [*]; done)), H', ⟨by have := HJ4.out; have := HJ18.out; have := HK3.out; omega⟩, ⟨by (with_reducible repeat (first | apply Kd.R_alloc | apply Kd.R_drewN | apply Kd.R_drew)); exact Kd.R_mono HO_5.out (fun _ hk => ⟨hk.1.1, hk.1.2⟩)⟩, ⟨by (with_reducible repeat (first | apply Kd.R_alloc | apply Kd.R_drewN | apply Kd.R_drew)); exact Kd.R_mono HO_8.out (fun _ hk => ⟨hk.1.1, hk.1.2⟩)⟩, ⟨by (with_reducible repeat (first | apply Kd.R_alloc | apply Kd.R_drewN | apply Kd.R_drew)); exact Kd.R_mono HO_11.out (fun _ hk => ⟨hk.1.1, hk.1.2⟩)⟩, ⟨by repeat (first | (with_reducible first | exact HB.out | apply below_alloc | apply pw_below_drewN | apply below_drew1) | exact HB.out)⟩⟩
                                      · rw [if_neg c42] at H
                                        exact absurd H (by simp)
                                    · rw [if_neg c41] at H
                                      exact absurd H (by simp)
                                  · rw [if_neg c40] at H
                                    exact absurd H (by simp)
                                · rw [if_neg c39] at H
                                  exact absurd H (by simp)
                            · rw [if_neg c29] at H
                              have c29b0 : decide (x90_3 < (t324.length : Int)) = false := decide_eq_false c29
                              clear c29
                              replace H := Option.bind_eq_some_iff.mp H
                              obtain ⟨t331, A480, H⟩ := H
                              replace H : (some t331) = some r := H
                              have A48 := Aside0.mk A480
                              clear A480
                              obtain rfl := Option.some.inj H
                              go_wp2_with (first | (go_at_call 7; refine calls_of_args (args' := #[]) (by first | rfl) ?_; (with_reducible refine (switchyardlaw07_awake.calls k3  t331 _ A48.out (Tabs.below HT.out (by repeat (first | (with_reducible first | exact HB.out | apply below_alloc | apply pw_below_drewN | apply below_drew1) | exact HB.out)))).mono ?_); rintro e w49 ⟨rfl, hb⟩; have n0_ := Aside0.mk (Kd.R_below (by (with_reducible repeat (first | apply Kd.R_alloc | apply Kd.R_drewN | apply Kd.R_drew)); exact HO_5.out) hb); have n1_ := Aside0.mk (Kd.R_below (by (with_reducible repeat (first | apply Kd.R_alloc | apply Kd.R_drewN | apply Kd.R_drew)); exact HO_8.out) hb); have n2_ := Aside0.mk (Kd.R_below (by (with_reducible repeat (first | apply Kd.R_alloc | apply Kd.R_drewN | apply Kd.R_drew)); exact HO_11.out) hb); have n3_ := Aside0.mk (below_step (by repeat (first | (with_reducible first | exact HB.out | apply below_alloc | apply pw_below_drewN | apply below_drew1) | exact HB.out)) hb); clear HO_5; clear HO_8; clear HO_11; clear HB; have HO_5 := n0_; have HO_8 := n1_; have HO_11 := n2_; have HB := n3_; clear n0_ n1_ n2_ n3_; (try clear hb); (try clear hb2); (try clear hk); (try clear hi)))
                              repeat (go_quiet (first | (go_at_call 7; refine calls_of_args (args' := #[]) (by first | rfl) ?_; (with_reducible refine (switchyardlaw07_awake.calls k3  t331 _ A48.out (Tabs.below HT.out (by repeat (first | (with_reducible first | exact HB.out | apply below_alloc | apply pw_below_drewN | apply below_drew1) | exact HB.out)))).mono ?_); rintro e w49 ⟨rfl, hb⟩; have n0_ := Aside0.mk (Kd.R_below (by (with_reducible repeat (first | apply Kd.R_alloc | apply Kd.R_drewN | apply Kd.R_drew)); exact HO_5.out) hb); have n1_ := Aside0.mk (Kd.R_below (by (with_reducible repeat (first | apply Kd.R_alloc | apply Kd.R_drewN | apply Kd.R_drew)); exact HO_8.out) hb); have n2_ := Aside0.mk (Kd.R_below (by (with_reducible repeat (first | apply Kd.R_alloc | apply Kd.R_drewN | apply Kd.R_drew)); exact HO_11.out) hb); have n3_ := Aside0.mk (below_step (by repeat (first | (with_reducible first | exact HB.out | apply below_alloc | apply pw_below_drewN | apply below_drew1) | exact HB.out)) hb); clear HO_5; clear HO_8; clear HO_11; clear HB; have HO_5 := n0_; have HO_8 := n1_; have HO_11 := n2_; have HB := n3_; clear n0_ n1_ n2_ n3_; (try clear hb); (try clear hb2); (try clear hk); (try clear hi))); try go_wp2_with (first | (go_at_call 7; refine calls_of_args (args' := #[]) (by first | rfl) ?_; (with_reducible refine (switchyardlaw07_awake.calls k3  t331 _ A48.out (Tabs.below HT.out (by repeat (first | (with_reducible first | exact HB.out | apply below_alloc | apply pw_below_drewN | apply below_drew1) | exact HB.out)))).mono ?_); rintro e w49 ⟨rfl, hb⟩; have n0_ := Aside0.mk (Kd.R_below (by (with_reducible repeat (first | apply Kd.R_alloc | apply Kd.R_drewN | apply Kd.R_drew)); exact HO_5.out) hb); have n1_ := Aside0.mk (Kd.R_below (by (with_reducible repeat (first | apply Kd.R_alloc | apply Kd.R_drewN | apply Kd.R_drew)); exact HO_8.out) hb); have n2_ := Aside0.mk (Kd.R_below (by (with_reducible repeat (first | apply Kd.R_alloc | apply Kd.R_drewN | apply Kd.R_drew)); exact HO_11.out) hb); have n3_ := Aside0.mk (below_step (by repeat (first | (with_reducible first | exact HB.out | apply below_alloc | apply pw_below_drewN | apply below_drew1) | exact HB.out)) hb); clear HO_5; clear HO_8; clear HO_11; clear HB; have HO_5 := n0_; have HO_8 := n1_; have HO_11 := n2_; have HB := n3_; clear n0_ n1_ n2_ n3_; (try clear hb); (try clear hb2); (try clear hk); (try clear hi))))
                              go_ret
                              exact ⟨by first | rfl | (simp [errW_none, errW_some] <;> rfl) | (simp [*, errW_none, errW_some] <;> rfl), by repeat (first | (with_reducible first | exact HB.out | apply below_alloc | apply pw_below_drewN | apply below_drew1) | exact HB.out)⟩
                · rw [if_neg c18] at H
                  have c18b0 : (t321 == 0) = false := beq_eq_false_iff_ne.mpr c18
                  have c18b1 : (t321 != 0) = true := bne_iff_ne.mpr c18
                  replace H := Option.bind_eq_some_iff.mp H
                  obtain ⟨t330, A500, H⟩ := H
                  replace H : (if t330 = true then (some (t326 == 24)) else (none)) = some r := H
                  have A50 := Aside0.mk A500
                  clear A500
                  by_cases c51 : t330 = true
                  · subst c51
                    have H1 : (some (t326 == 24)) = some r := by rw [if_pos rfl] at H; exact H
                    clear H
                    have H := H1
                    clear H1
                    obtain rfl := Option.some.inj H
                    go_wp2_with (first | (go_at_call 8; refine calls_of_args (args' := #[.string a0]) (by first | rfl) ?_; (with_reducible refine (lex_Scan.calls kj4 a0 t314 t315 t316 _ A12.out (Tabs.below HT.out (by repeat (first | (with_reducible first | exact HB.out | apply below_alloc | apply pw_below_drewN | apply below_drew1) | exact HB.out)))).mono ?_); rintro e w52 ⟨v317, rfl, ho0, hb⟩; have n0_ := Aside0.mk (Kd.R_lower ho0 (below_size (by repeat (first | (with_reducible first | exact HB.out | apply below_alloc | apply pw_below_drewN | apply below_drew1) | exact HB.out)))); have n1_ := Aside0.mk (below_step (by repeat (first | (with_reducible first | exact HB.out | apply below_alloc | apply pw_below_drewN | apply below_drew1) | exact HB.out)) hb); clear HB; have HO318 := n0_; have HB := n1_; clear n0_ n1_; (try clear hb); (try clear hb2); (try clear hk); (try clear hi); (try clear ho0)) | (go_at_call 8; refine calls_of_args (args' := #[.string a1]) (by first | rfl) ?_; (with_reducible refine (lex_Scan.calls kj4 a1 t319 t320 t321 _ A13.out (Tabs.below HT.out (by repeat (first | (with_reducible first | exact HB.out | apply below_alloc | apply pw_below_drewN | apply below_drew1) | exact HB.out)))).mono ?_); rintro e w53 ⟨v322, rfl, ho0, hb⟩; have n0_ := Aside0.mk (Kd.R_elder' (by (with_reducible repeat (first | apply Kd.R_alloc | apply Kd.R_drewN | apply Kd.R_drew)); exact HO318.out) (Kd.R_base ho0) hb); have n1_ := Aside0.mk (Kd.R_lower (Kd.R_new' ho0 (Kd.R_lt (by (with_reducible repeat (first | apply Kd.R_alloc | apply Kd.R_drewN | apply Kd.R_drew)); exact HO318.out))) (below_size (by repeat (first | (with_reducible first | exact HB.out | apply below_alloc | apply pw_below_drewN | apply below_drew1) | exact HB.out)))); have n2_ := Aside0.mk (below_step (by repeat (first | (with_reducible first | exact HB.out | apply below_alloc | apply pw_below_drewN | apply below_drew1) | exact HB.out)) hb); clear HO318; clear HB; have HO318 := n0_; have HO323 := n1_; have HB := n2_; clear n0_ n1_ n2_; (try clear hb); (try clear hb2); (try clear hk); (try clear hi); (try clear ho0)) | (go_at_call 8; refine calls_of_args (args' := #[.string ((a0 ++ (⟨#[10]⟩ : ByteArray)) ++ a1)]) (by first | rfl) ?_; (with_reducible refine (lex_Scan.calls kj4 ((a0 ++ (⟨#[10]⟩ : ByteArray)) ++ a1) t324 t325 t326 _ A16.out (Tabs.below HT.out (by repeat (first | (with_reducible first | exact HB.out | apply below_alloc | apply pw_below_drewN | apply below_drew1) | exact HB.out)))).mono ?_); rintro e w54 ⟨v327, rfl, ho0, hb⟩; have n0_ := Aside0.mk (Kd.R_elder' (by (with_reducible repeat (first | apply Kd.R_alloc | apply Kd.R_drewN | apply Kd.R_drew)); exact HO318.out) (Kd.R_base ho0) hb); have n1_ := Aside0.mk (Kd.R_elder' (by (with_reducible repeat (first | apply Kd.R_alloc | apply Kd.R_drewN | apply Kd.R_drew)); exact HO323.out) (Kd.R_base ho0) hb); have n2_ := Aside0.mk (Kd.R_lower (Kd.R_new' (Kd.R_new' ho0 (Kd.R_lt (by (with_reducible repeat (first | apply Kd.R_alloc | apply Kd.R_drewN | apply Kd.R_drew)); exact HO318.out))) (Kd.R_lt (by (with_reducible repeat (first | apply Kd.R_alloc | apply Kd.R_drewN | apply Kd.R_drew)); exact HO323.out))) (below_size (by repeat (first | (with_reducible first | exact HB.out | apply below_alloc | apply pw_below_drewN | apply below_drew1) | exact HB.out)))); have n3_ := Aside0.mk (below_step (by repeat (first | (with_reducible first | exact HB.out | apply below_alloc | apply pw_below_drewN | apply below_drew1) | exact HB.out)) hb); clear HO318; clear HO323; clear HB; have HO318 := n0_; have HO323 := n1_; have HO328 := n2_; have HB := n3_; clear n0_ n1_ n2_ n3_; (try clear hb); (try clear hb2); (try clear hk); (try clear hi); (try clear ho0)) | (go_at_call 7; refine calls_of_args (args' := #[]) (by first | rfl) ?_; (with_reducible refine (switchyardlaw07_awake.calls kj4  true _ A50.out (Tabs.below HT.out (by repeat (first | (with_reducible first | exact HB.out | apply below_alloc | apply pw_below_drewN | apply below_drew1) | exact HB.out)))).mono ?_); rintro e w55 ⟨rfl, hb⟩; have n0_ := Aside0.mk (Kd.R_below (by (with_reducible repeat (first | apply Kd.R_alloc | apply Kd.R_drewN | apply Kd.R_drew)); exact HO318.out) hb); have n1_ := Aside0.mk (Kd.R_below (by (with_reducible repeat (first | apply Kd.R_alloc | apply Kd.R_drewN | apply Kd.R_drew)); exact HO323.out) hb); have n2_ := Aside0.mk (Kd.R_below (by (with_reducible repeat (first | apply Kd.R_alloc | apply Kd.R_drewN | apply Kd.R_drew)); exact HO328.out) hb); have n3_ := Aside0.mk (below_step (by repeat (first | (with_reducible first | exact HB.out | apply below_alloc | apply pw_below_drewN | apply below_drew1) | exact HB.out)) hb); clear HO318; clear HO323; clear HO328; clear HB; have HO318 := n0_; have HO323 := n1_; have HO328 := n2_; have HB := n3_; clear n0_ n1_ n2_ n3_; (try clear hb); (try clear hb2); (try clear hk); (try clear hi)))
                    repeat (go_quiet (first | (go_at_call 8; refine calls_of_args (args' := #[.string a0]) (by first | rfl) ?_; (with_reducible refine (lex_Scan.calls kj4 a0 t314 t315 t316 _ A12.out (Tabs.below HT.out (by repeat (first | (with_reducible first | exact HB.out | apply below_alloc | apply pw_below_drewN | apply below_drew1) | exact HB.out)))).mono ?_); rintro e w52 ⟨v317, rfl, ho0, hb⟩; have n0_ := Aside0.mk (Kd.R_lower ho0 (below_size (by repeat (first | (with_reducible first | exact HB.out | apply below_alloc | apply pw_below_drewN | apply below_drew1) | exact HB.out)))); have n1_ := Aside0.mk (below_step (by repeat (first | (with_reducible first | exact HB.out | apply below_alloc | apply pw_below_drewN | apply below_drew1) | exact HB.out)) hb); clear HB; have HO318 := n0_; have HB := n1_; clear n0_ n1_; (try clear hb); (try clear hb2); (try clear hk); (try clear hi); (try clear ho0)) | (go_at_call 8; refine calls_of_args (args' := #[.string a1]) (by first | rfl) ?_; (with_reducible refine (lex_Scan.calls kj4 a1 t319 t320 t321 _ A13.out (Tabs.below HT.out (by repeat (first | (with_reducible first | exact HB.out | apply below_alloc | apply pw_below_drewN | apply below_drew1) | exact HB.out)))).mono ?_); rintro e w53 ⟨v322, rfl, ho0, hb⟩; have n0_ := Aside0.mk (Kd.R_elder' (by (with_reducible repeat (first | apply Kd.R_alloc | apply Kd.R_drewN | apply Kd.R_drew)); exact HO318.out) (Kd.R_base ho0) hb); have n1_ := Aside0.mk (Kd.R_lower (Kd.R_new' ho0 (Kd.R_lt (by (with_reducible repeat (first | apply Kd.R_alloc | apply Kd.R_drewN | apply Kd.R_drew)); exact HO318.out))) (below_size (by repeat (first | (with_reducible first | exact HB.out | apply below_alloc | apply pw_below_drewN | apply below_drew1) | exact HB.out)))); have n2_ := Aside0.mk (below_step (by repeat (first | (with_reducible first | exact HB.out | apply below_alloc | apply pw_below_drewN | apply below_drew1) | exact HB.out)) hb); clear HO318; clear HB; have HO318 := n0_; have HO323 := n1_; have HB := n2_; clear n0_ n1_ n2_; (try clear hb); (try clear hb2); (try clear hk); (try clear hi); (try clear ho0)) | (go_at_call 8; refine calls_of_args (args' := #[.string ((a0 ++ (⟨#[10]⟩ : ByteArray)) ++ a1)]) (by first | rfl) ?_; (with_reducible refine (lex_Scan.calls kj4 ((a0 ++ (⟨#[10]⟩ : ByteArray)) ++ a1) t324 t325 t326 _ A16.out (Tabs.below HT.out (by repeat (first | (with_reducible first | exact HB.out | apply below_alloc | apply pw_below_drewN | apply below_drew1) | exact HB.out)))).mono ?_); rintro e w54 ⟨v327, rfl, ho0, hb⟩; have n0_ := Aside0.mk (Kd.R_elder' (by (with_reducible repeat (first | apply Kd.R_alloc | apply Kd.R_drewN | apply Kd.R_drew)); exact HO318.out) (Kd.R_base ho0) hb); have n1_ := Aside0.mk (Kd.R_elder' (by (with_reducible repeat (first | apply Kd.R_alloc | apply Kd.R_drewN | apply Kd.R_drew)); exact HO323.out) (Kd.R_base ho0) hb); have n2_ := Aside0.mk (Kd.R_lower (Kd.R_new' (Kd.R_new' ho0 (Kd.R_lt (by (with_reducible repeat (first | apply Kd.R_alloc | apply Kd.R_drewN | apply Kd.R_drew)); exact HO318.out))) (Kd.R_lt (by (with_reducible repeat (first | apply Kd.R_alloc | apply Kd.R_drewN | apply Kd.R_drew)); exact HO323.out))) (below_size (by repeat (first | (with_reducible first | exact HB.out | apply below_alloc | apply pw_below_drewN | apply below_drew1) | exact HB.out)))); have n3_ := Aside0.mk (below_step (by repeat (first | (with_reducible first | exact HB.out | apply below_alloc | apply pw_below_drewN | apply below_drew1) | exact HB.out)) hb); clear HO318; clear HO323; clear HB; have HO318 := n0_; have HO323 := n1_; have HO328 := n2_; have HB := n3_; clear n0_ n1_ n2_ n3_; (try clear hb); (try clear hb2); (try clear hk); (try clear hi); (try clear ho0)) | (go_at_call 7; refine calls_of_args (args' := #[]) (by first | rfl) ?_; (with_reducible refine (switchyardlaw07_awake.calls kj4  true _ A50.out (Tabs.below HT.out (by repeat (first | (with_reducible first | exact HB.out | apply below_alloc | apply pw_below_drewN | apply below_drew1) | exact HB.out)))).mono ?_); rintro e w55 ⟨rfl, hb⟩; have n0_ := Aside0.mk (Kd.R_below (by (with_reducible repeat (first | apply Kd.R_alloc | apply Kd.R_drewN | apply Kd.R_drew)); exact HO318.out) hb); have n1_ := Aside0.mk (Kd.R_below (by (with_reducible repeat (first | apply Kd.R_alloc | apply Kd.R_drewN | apply Kd.R_drew)); exact HO323.out) hb); have n2_ := Aside0.mk (Kd.R_below (by (with_reducible repeat (first | apply Kd.R_alloc | apply Kd.R_drewN | apply Kd.R_drew)); exact HO328.out) hb); have n3_ := Aside0.mk (below_step (by repeat (first | (with_reducible first | exact HB.out | apply below_alloc | apply pw_below_drewN | apply below_drew1) | exact HB.out)) hb); clear HO318; clear HO323; clear HO328; clear HB; have HO318 := n0_; have HO323 := n1_; have HO328 := n2_; have HB := n3_; clear n0_ n1_ n2_ n3_; (try clear hb); (try clear hb2); (try clear hk); (try clear hi))); try go_wp2_with (first | (go_at_call 8; refine calls_of_args (args' := #[.string a0]) (by first | rfl) ?_; (with_reducible refine (lex_Scan.calls kj4 a0 t314 t315 t316 _ A12.out (Tabs.below HT.out (by repeat (first | (with_reducible first | exact HB.out | apply below_alloc | apply pw_below_drewN | apply below_drew1) | exact HB.out)))).mono ?_); rintro e w52 ⟨v317, rfl, ho0, hb⟩; have n0_ := Aside0.mk (Kd.R_lower ho0 (below_size (by repeat (first | (with_reducible first | exact HB.out | apply below_alloc | apply pw_below_drewN | apply below_drew1) | exact HB.out)))); have n1_ := Aside0.mk (below_step (by repeat (first | (with_reducible first | exact HB.out | apply below_alloc | apply pw_below_drewN | apply below_drew1) | exact HB.out)) hb); clear HB; have HO318 := n0_; have HB := n1_; clear n0_ n1_; (try clear hb); (try clear hb2); (try clear hk); (try clear hi); (try clear ho0)) | (go_at_call 8; refine calls_of_args (args' := #[.string a1]) (by first | rfl) ?_; (with_reducible refine (lex_Scan.calls kj4 a1 t319 t320 t321 _ A13.out (Tabs.below HT.out (by repeat (first | (with_reducible first | exact HB.out | apply below_alloc | apply pw_below_drewN | apply below_drew1) | exact HB.out)))).mono ?_); rintro e w53 ⟨v322, rfl, ho0, hb⟩; have n0_ := Aside0.mk (Kd.R_elder' (by (with_reducible repeat (first | apply Kd.R_alloc | apply Kd.R_drewN | apply Kd.R_drew)); exact HO318.out) (Kd.R_base ho0) hb); have n1_ := Aside0.mk (Kd.R_lower (Kd.R_new' ho0 (Kd.R_lt (by (with_reducible repeat (first | apply Kd.R_alloc | apply Kd.R_drewN | apply Kd.R_drew)); exact HO318.out))) (below_size (by repeat (first | (with_reducible first | exact HB.out | apply below_alloc | apply pw_below_drewN | apply below_drew1) | exact HB.out)))); have n2_ := Aside0.mk (below_step (by repeat (first | (with_reducible first | exact HB.out | apply below_alloc | apply pw_below_drewN | apply below_drew1) | exact HB.out)) hb); clear HO318; clear HB; have HO318 := n0_; have HO323 := n1_; have HB := n2_; clear n0_ n1_ n2_; (try clear hb); (try clear hb2); (try clear hk); (try clear hi); (try clear ho0)) | (go_at_call 8; refine calls_of_args (args' := #[.string ((a0 ++ (⟨#[10]⟩ : ByteArray)) ++ a1)]) (by first | rfl) ?_; (with_reducible refine (lex_Scan.calls kj4 ((a0 ++ (⟨#[10]⟩ : ByteArray)) ++ a1) t324 t325 t326 _ A16.out (Tabs.below HT.out (by repeat (first | (with_reducible first | exact HB.out | apply below_alloc | apply pw_below_drewN | apply below_drew1) | exact HB.out)))).mono ?_); rintro e w54 ⟨v327, rfl, ho0, hb⟩; have n0_ := Aside0.mk (Kd.R_elder' (by (with_reducible repeat (first | apply Kd.R_alloc | apply Kd.R_drewN | apply Kd.R_drew)); exact HO318.out) (Kd.R_base ho0) hb); have n1_ := Aside0.mk (Kd.R_elder' (by (with_reducible repeat (first | apply Kd.R_alloc | apply Kd.R_drewN | apply Kd.R_drew)); exact HO323.out) (Kd.R_base ho0) hb); have n2_ := Aside0.mk (Kd.R_lower (Kd.R_new' (Kd.R_new' ho0 (Kd.R_lt (by (with_reducible repeat (first | apply Kd.R_alloc | apply Kd.R_drewN | apply Kd.R_drew)); exact HO318.out))) (Kd.R_lt (by (with_reducible repeat (first | apply Kd.R_alloc | apply Kd.R_drewN | apply Kd.R_drew)); exact HO323.out))) (below_size (by repeat (first | (with_reducible first | exact HB.out | apply below_alloc | apply pw_below_drewN | apply below_drew1) | exact HB.out)))); have n3_ := Aside0.mk (below_step (by repeat (first | (with_reducible first | exact HB.out | apply below_alloc | apply pw_below_drewN | apply below_drew1) | exact HB.out)) hb); clear HO318; clear HO323; clear HB; have HO318 := n0_; have HO323 := n1_; have HO328 := n2_; have HB := n3_; clear n0_ n1_ n2_ n3_; (try clear hb); (try clear hb2); (try clear hk); (try clear hi); (try clear ho0)) | (go_at_call 7; refine calls_of_args (args' := #[]) (by first | rfl) ?_; (with_reducible refine (switchyardlaw07_awake.calls kj4  true _ A50.out (Tabs.below HT.out (by repeat (first | (with_reducible first | exact HB.out | apply below_alloc | apply pw_below_drewN | apply below_drew1) | exact HB.out)))).mono ?_); rintro e w55 ⟨rfl, hb⟩; have n0_ := Aside0.mk (Kd.R_below (by (with_reducible repeat (first | apply Kd.R_alloc | apply Kd.R_drewN | apply Kd.R_drew)); exact HO318.out) hb); have n1_ := Aside0.mk (Kd.R_below (by (with_reducible repeat (first | apply Kd.R_alloc | apply Kd.R_drewN | apply Kd.R_drew)); exact HO323.out) hb); have n2_ := Aside0.mk (Kd.R_below (by (with_reducible repeat (first | apply Kd.R_alloc | apply Kd.R_drewN | apply Kd.R_drew)); exact HO328.out) hb); have n3_ := Aside0.mk (below_step (by repeat (first | (with_reducible first | exact HB.out | apply below_alloc | apply pw_below_drewN | apply below_drew1) | exact HB.out)) hb); clear HO318; clear HO323; clear HO328; clear HB; have HO318 := n0_; have HO323 := n1_; have HO328 := n2_; have HB := n3_; clear n0_ n1_ n2_ n3_; (try clear hb); (try clear hb2); (try clear hk); (try clear hi))))
                    go_ret
                    exact ⟨by first | rfl | (simp [errW_none, errW_some] <;> rfl) | (simp [*, errW_none, errW_some] <;> rfl), by repeat (first | (with_reducible first | exact HB.out | apply below_alloc | apply pw_below_drewN | apply below_drew1) | exact HB.out)⟩
                  · replace c51 := Bool.eq_false_iff.mpr c51
                    subst c51
                    have H1 : (none) = some r := by rw [if_neg (show ¬ (false = true) by decide)] at H; exact H
                    clear H
                    have H := H1
                    clear H1
                    exact absurd H (by simp)
              · rw [if_neg c17] at H
                have c17b0 : (t316 == 0) = false := beq_eq_false_iff_ne.mpr c17
                have c17b1 : (t316 != 0) = true := bne_iff_ne.mpr c17
                replace H := Option.bind_eq_some_iff.mp H
                obtain ⟨t329, A560, H⟩ := H
                replace H : (if t329 = true then (if t326 = 0 then (some true) else (some (decide (t325 ≥ t315)))) else (none)) = some r := H
                have A56 := Aside0.mk A560
                clear A560
                by_cases c57 : t329 = true
                · subst c57
                  have H1 : (if t326 = 0 then (some true) else (some (decide (t325 ≥ t315)))) = some r := by rw [if_pos rfl] at H; exact H
                  clear H
                  have H := H1
                  clear H1
                  by_cases c58 : t326 = 0
                  · rw [if_pos c58] at H
                    have c58b0 : (t326 == 0) = true := beq_iff_eq.mpr c58
                    have c58b1 : (t326 != 0) = false := bne_eq_false_iff_eq.mpr c58
                    clear c58
                    obtain rfl := Option.some.inj H
                    go_wp2_with (first | (go_at_call 8; refine calls_of_args (args' := #[.string a0]) (by first | rfl) ?_; (with_reducible refine (lex_Scan.calls kj4 a0 t314 t315 t316 _ A12.out (Tabs.below HT.out (by repeat (first | (with_reducible first | exact HB.out | apply below_alloc | apply pw_below_drewN | apply below_drew1) | exact HB.out)))).mono ?_); rintro e w59 ⟨v317, rfl, ho0, hb⟩; have n0_ := Aside0.mk (Kd.R_lower ho0 (below_size (by repeat (first | (with_reducible first | exact HB.out | apply below_alloc | apply pw_below_drewN | apply below_drew1) | exact HB.out)))); have n1_ := Aside0.mk (below_step (by repeat (first | (with_reducible first | exact HB.out | apply below_alloc | apply pw_below_drewN | apply below_drew1) | exact HB.out)) hb); clear HB; have HO318 := n0_; have HB := n1_; clear n0_ n1_; (try clear hb); (try clear hb2); (try clear hk); (try clear hi); (try clear ho0)) | (go_at_call 8; refine calls_of_args (args' := #[.string a1]) (by first | rfl) ?_; (with_reducible refine (lex_Scan.calls kj4 a1 t319 t320 t321 _ A13.out (Tabs.below HT.out (by repeat (first | (with_reducible first | exact HB.out | apply below_alloc | apply pw_below_drewN | apply below_drew1) | exact HB.out)))).mono ?_); rintro e w60 ⟨v322, rfl, ho0, hb⟩; have n0_ := Aside0.mk (Kd.R_elder' (by (with_reducible repeat (first | apply Kd.R_alloc | apply Kd.R_drewN | apply Kd.R_drew)); exact HO318.out) (Kd.R_base ho0) hb); have n1_ := Aside0.mk (Kd.R_lower (Kd.R_new' ho0 (Kd.R_lt (by (with_reducible repeat (first | apply Kd.R_alloc | apply Kd.R_drewN | apply Kd.R_drew)); exact HO318.out))) (below_size (by repeat (first | (with_reducible first | exact HB.out | apply below_alloc | apply pw_below_drewN | apply below_drew1) | exact HB.out)))); have n2_ := Aside0.mk (below_step (by repeat (first | (with_reducible first | exact HB.out | apply below_alloc | apply pw_below_drewN | apply below_drew1) | exact HB.out)) hb); clear HO318; clear HB; have HO318 := n0_; have HO323 := n1_; have HB := n2_; clear n0_ n1_ n2_; (try clear hb); (try clear hb2); (try clear hk); (try clear hi); (try clear ho0)) | (go_at_call 8; refine calls_of_args (args' := #[.string ((a0 ++ (⟨#[10]⟩ : ByteArray)) ++ a1)]) (by first | rfl) ?_; (with_reducible refine (lex_Scan.calls kj4 ((a0 ++ (⟨#[10]⟩ : ByteArray)) ++ a1) t324 t325 t326 _ A16.out (Tabs.below HT.out (by repeat (first | (with_reducible first | exact HB.out | apply below_alloc | apply pw_below_drewN | apply below_drew1) | exact HB.out)))).mono ?_); rintro e w61 ⟨v327, rfl, ho0, hb⟩; have n0_ := Aside0.mk (Kd.R_elder' (by (with_reducible repeat (first | apply Kd.R_alloc | apply Kd.R_drewN | apply Kd.R_drew)); exact HO318.out) (Kd.R_base ho0) hb); have n1_ := Aside0.mk (Kd.R_elder' (by (with_reducible repeat (first | apply Kd.R_alloc | apply Kd.R_drewN | apply Kd.R_drew)); exact HO323.out) (Kd.R_base ho0) hb); have n2_ := Aside0.mk (Kd.R_lower (Kd.R_new' (Kd.R_new' ho0 (Kd.R_lt (by (with_reducible repeat (first | apply Kd.R_alloc | apply Kd.R_drewN | apply Kd.R_drew)); exact HO318.out))) (Kd.R_lt (by (with_reducible repeat (first | apply Kd.R_alloc | apply Kd.R_drewN | apply Kd.R_drew)); exact HO323.out))) (below_size (by repeat (first | (with_reducible first | exact HB.out | apply below_alloc | apply pw_below_drewN | apply below_drew1) | exact HB.out)))); have n3_ := Aside0.mk (below_step (by repeat (first | (with_reducible first | exact HB.out | apply below_alloc | apply pw_below_drewN | apply below_drew1) | exact HB.out)) hb); clear HO318; clear HO323; clear HB; have HO318 := n0_; have HO323 := n1_; have HO328 := n2_; have HB := n3_; clear n0_ n1_ n2_ n3_; (try clear hb); (try clear hb2); (try clear hk); (try clear hi); (try clear ho0)) | (go_at_call 7; refine calls_of_args (args' := #[]) (by first | rfl) ?_; (with_reducible refine (switchyardlaw07_awake.calls kj4  true _ A56.out (Tabs.below HT.out (by repeat (first | (with_reducible first | exact HB.out | apply below_alloc | apply pw_below_drewN | apply below_drew1) | exact HB.out)))).mono ?_); rintro e w62 ⟨rfl, hb⟩; have n0_ := Aside0.mk (Kd.R_below (by (with_reducible repeat (first | apply Kd.R_alloc | apply Kd.R_drewN | apply Kd.R_drew)); exact HO318.out) hb); have n1_ := Aside0.mk (Kd.R_below (by (with_reducible repeat (first | apply Kd.R_alloc | apply Kd.R_drewN | apply Kd.R_drew)); exact HO323.out) hb); have n2_ := Aside0.mk (Kd.R_below (by (with_reducible repeat (first | apply Kd.R_alloc | apply Kd.R_drewN | apply Kd.R_drew)); exact HO328.out) hb); have n3_ := Aside0.mk (below_step (by repeat (first | (with_reducible first | exact HB.out | apply below_alloc | apply pw_below_drewN | apply below_drew1) | exact HB.out)) hb); clear HO318; clear HO323; clear HO328; clear HB; have HO318 := n0_; have HO323 := n1_; have HO328 := n2_; have HB := n3_; clear n0_ n1_ n2_ n3_; (try clear hb); (try clear hb2); (try clear hk); (try clear hi)))
                    repeat (go_quiet (first | (go_at_call 8; refine calls_of_args (args' := #[.string a0]) (by first | rfl) ?_; (with_reducible refine (lex_Scan.calls kj4 a0 t314 t315 t316 _ A12.out (Tabs.below HT.out (by repeat (first | (with_reducible first | exact HB.out | apply below_alloc | apply pw_below_drewN | apply below_drew1) | exact HB.out)))).mono ?_); rintro e w59 ⟨v317, rfl, ho0, hb⟩; have n0_ := Aside0.mk (Kd.R_lower ho0 (below_size (by repeat (first | (with_reducible first | exact HB.out | apply below_alloc | apply pw_below_drewN | apply below_drew1) | exact HB.out)))); have n1_ := Aside0.mk (below_step (by repeat (first | (with_reducible first | exact HB.out | apply below_alloc | apply pw_below_drewN | apply below_drew1) | exact HB.out)) hb); clear HB; have HO318 := n0_; have HB := n1_; clear n0_ n1_; (try clear hb); (try clear hb2); (try clear hk); (try clear hi); (try clear ho0)) | (go_at_call 8; refine calls_of_args (args' := #[.string a1]) (by first | rfl) ?_; (with_reducible refine (lex_Scan.calls kj4 a1 t319 t320 t321 _ A13.out (Tabs.below HT.out (by repeat (first | (with_reducible first | exact HB.out | apply below_alloc | apply pw_below_drewN | apply below_drew1) | exact HB.out)))).mono ?_); rintro e w60 ⟨v322, rfl, ho0, hb⟩; have n0_ := Aside0.mk (Kd.R_elder' (by (with_reducible repeat (first | apply Kd.R_alloc | apply Kd.R_drewN | apply Kd.R_drew)); exact HO318.out) (Kd.R_base ho0) hb); have n1_ := Aside0.mk (Kd.R_lower (Kd.R_new' ho0 (Kd.R_lt (by (with_reducible repeat (first | apply Kd.R_alloc | apply Kd.R_drewN | apply Kd.R_drew)); exact HO318.out))) (below_size (by repeat (first | (with_reducible first | exact HB.out | apply below_alloc | apply pw_below_drewN | apply below_drew1) | exact HB.out)))); have n2_ := Aside0.mk (below_step (by repeat (first | (with_reducible first | exact HB.out | apply below_alloc | apply pw_below_drewN | apply below_drew1) | exact HB.out)) hb); clear HO318; clear HB; have HO318 := n0_; have HO323 := n1_; have HB := n2_; clear n0_ n1_ n2_; (try clear hb); (try clear hb2); (try clear hk); (try clear hi); (try clear ho0)) | (go_at_call 8; refine calls_of_args (args' := #[.string ((a0 ++ (⟨#[10]⟩ : ByteArray)) ++ a1)]) (by first | rfl) ?_; (with_reducible refine (lex_Scan.calls kj4 ((a0 ++ (⟨#[10]⟩ : ByteArray)) ++ a1) t324 t325 t326 _ A16.out (Tabs.below HT.out (by repeat (first | (with_reducible first | exact HB.out | apply below_alloc | apply pw_below_drewN | apply below_drew1) | exact HB.out)))).mono ?_); rintro e w61 ⟨v327, rfl, ho0, hb⟩; have n0_ := Aside0.mk (Kd.R_elder' (by (with_reducible repeat (first | apply Kd.R_alloc | apply Kd.R_drewN | apply Kd.R_drew)); exact HO318.out) (Kd.R_base ho0) hb); have n1_ := Aside0.mk (Kd.R_elder' (by (with_reducible repeat (first | apply Kd.R_alloc | apply Kd.R_drewN | apply Kd.R_drew)); exact HO323.out) (Kd.R_base ho0) hb); have n2_ := Aside0.mk (Kd.R_lower (Kd.R_new' (Kd.R_new' ho0 (Kd.R_lt (by (with_reducible repeat (first | apply Kd.R_alloc | apply Kd.R_drewN | apply Kd.R_drew)); exact HO318.out))) (Kd.R_lt (by (with_reducible repeat (first | apply Kd.R_alloc | apply Kd.R_drewN | apply Kd.R_drew)); exact HO323.out))) (below_size (by repeat (first | (with_reducible first | exact HB.out | apply below_alloc | apply pw_below_drewN | apply below_drew1) | exact HB.out)))); have n3_ := Aside0.mk (below_step (by repeat (first | (with_reducible first | exact HB.out | apply below_alloc | apply pw_below_drewN | apply below_drew1) | exact HB.out)) hb); clear HO318; clear HO323; clear HB; have HO318 := n0_; have HO323 := n1_; have HO328 := n2_; have HB := n3_; clear n0_ n1_ n2_ n3_; (try clear hb); (try clear hb2); (try clear hk); (try clear hi); (try clear ho0)) | (go_at_call 7; refine calls_of_args (args' := #[]) (by first | rfl) ?_; (with_reducible refine (switchyardlaw07_awake.calls kj4  true _ A56.out (Tabs.below HT.out (by repeat (first | (with_reducible first | exact HB.out | apply below_alloc | apply pw_below_drewN | apply below_drew1) | exact HB.out)))).mono ?_); rintro e w62 ⟨rfl, hb⟩; have n0_ := Aside0.mk (Kd.R_below (by (with_reducible repeat (first | apply Kd.R_alloc | apply Kd.R_drewN | apply Kd.R_drew)); exact HO318.out) hb); have n1_ := Aside0.mk (Kd.R_below (by (with_reducible repeat (first | apply Kd.R_alloc | apply Kd.R_drewN | apply Kd.R_drew)); exact HO323.out) hb); have n2_ := Aside0.mk (Kd.R_below (by (with_reducible repeat (first | apply Kd.R_alloc | apply Kd.R_drewN | apply Kd.R_drew)); exact HO328.out) hb); have n3_ := Aside0.mk (below_step (by repeat (first | (with_reducible first | exact HB.out | apply below_alloc | apply pw_below_drewN | apply below_drew1) | exact HB.out)) hb); clear HO318; clear HO323; clear HO328; clear HB; have HO318 := n0_; have HO323 := n1_; have HO328 := n2_; have HB := n3_; clear n0_ n1_ n2_ n3_; (try clear hb); (try clear hb2); (try clear hk); (try clear hi))); try go_wp2_with (first | (go_at_call 8; refine calls_of_args (args' := #[.string a0]) (by first | rfl) ?_; (with_reducible refine (lex_Scan.calls kj4 a0 t314 t315 t316 _ A12.out (Tabs.below HT.out (by repeat (first | (with_reducible first | exact HB.out | apply below_alloc | apply pw_below_drewN | apply below_drew1) | exact HB.out)))).mono ?_); rintro e w59 ⟨v317, rfl, ho0, hb⟩; have n0_ := Aside0.mk (Kd.R_lower ho0 (below_size (by repeat (first | (with_reducible first | exact HB.out | apply below_alloc | apply pw_below_drewN | apply below_drew1) | exact HB.out)))); have n1_ := Aside0.mk (below_step (by repeat (first | (with_reducible first | exact HB.out | apply below_alloc | apply pw_below_drewN | apply below_drew1) | exact HB.out)) hb); clear HB; have HO318 := n0_; have HB := n1_; clear n0_ n1_; (try clear hb); (try clear hb2); (try clear hk); (try clear hi); (try clear ho0)) | (go_at_call 8; refine calls_of_args (args' := #[.string a1]) (by first | rfl) ?_; (with_reducible refine (lex_Scan.calls kj4 a1 t319 t320 t321 _ A13.out (Tabs.below HT.out (by repeat (first | (with_reducible first | exact HB.out | apply below_alloc | apply pw_below_drewN | apply below_drew1) | exact HB.out)))).mono ?_); rintro e w60 ⟨v322, rfl, ho0, hb⟩; have n0_ := Aside0.mk (Kd.R_elder' (by (with_reducible repeat (first | apply Kd.R_alloc | apply Kd.R_drewN | apply Kd.R_drew)); exact HO318.out) (Kd.R_base ho0) hb); have n1_ := Aside0.mk (Kd.R_lower (Kd.R_new' ho0 (Kd.R_lt (by (with_reducible repeat (first | apply Kd.R_alloc | apply Kd.R_drewN | apply Kd.R_drew)); exact HO318.out))) (below_size (by repeat (first | (with_reducible first | exact HB.out | apply below_alloc | apply pw_below_drewN | apply below_drew1) | exact HB.out)))); have n2_ := Aside0.mk (below_step (by repeat (first | (with_reducible first | exact HB.out | apply below_alloc | apply pw_below_drewN | apply below_drew1) | exact HB.out)) hb); clear HO318; clear HB; have HO318 := n0_; have HO323 := n1_; have HB := n2_; clear n0_ n1_ n2_; (try clear hb); (try clear hb2); (try clear hk); (try clear hi); (try clear ho0)) | (go_at_call 8; refine calls_of_args (args' := #[.string ((a0 ++ (⟨#[10]⟩ : ByteArray)) ++ a1)]) (by first | rfl) ?_; (with_reducible refine (lex_Scan.calls kj4 ((a0 ++ (⟨#[10]⟩ : ByteArray)) ++ a1) t324 t325 t326 _ A16.out (Tabs.below HT.out (by repeat (first | (with_reducible first | exact HB.out | apply below_alloc | apply pw_below_drewN | apply below_drew1) | exact HB.out)))).mono ?_); rintro e w61 ⟨v327, rfl, ho0, hb⟩; have n0_ := Aside0.mk (Kd.R_elder' (by (with_reducible repeat (first | apply Kd.R_alloc | apply Kd.R_drewN | apply Kd.R_drew)); exact HO318.out) (Kd.R_base ho0) hb); have n1_ := Aside0.mk (Kd.R_elder' (by (with_reducible repeat (first | apply Kd.R_alloc | apply Kd.R_drewN | apply Kd.R_drew)); exact HO323.out) (Kd.R_base ho0) hb); have n2_ := Aside0.mk (Kd.R_lower (Kd.R_new' (Kd.R_new' ho0 (Kd.R_lt (by (with_reducible repeat (first | apply Kd.R_alloc | apply Kd.R_drewN | apply Kd.R_drew)); exact HO318.out))) (Kd.R_lt (by (with_reducible repeat (first | apply Kd.R_alloc | apply Kd.R_drewN | apply Kd.R_drew)); exact HO323.out))) (below_size (by repeat (first | (with_reducible first | exact HB.out | apply below_alloc | apply pw_below_drewN | apply below_drew1) | exact HB.out)))); have n3_ := Aside0.mk (below_step (by repeat (first | (with_reducible first | exact HB.out | apply below_alloc | apply pw_below_drewN | apply below_drew1) | exact HB.out)) hb); clear HO318; clear HO323; clear HB; have HO318 := n0_; have HO323 := n1_; have HO328 := n2_; have HB := n3_; clear n0_ n1_ n2_ n3_; (try clear hb); (try clear hb2); (try clear hk); (try clear hi); (try clear ho0)) | (go_at_call 7; refine calls_of_args (args' := #[]) (by first | rfl) ?_; (with_reducible refine (switchyardlaw07_awake.calls kj4  true _ A56.out (Tabs.below HT.out (by repeat (first | (with_reducible first | exact HB.out | apply below_alloc | apply pw_below_drewN | apply below_drew1) | exact HB.out)))).mono ?_); rintro e w62 ⟨rfl, hb⟩; have n0_ := Aside0.mk (Kd.R_below (by (with_reducible repeat (first | apply Kd.R_alloc | apply Kd.R_drewN | apply Kd.R_drew)); exact HO318.out) hb); have n1_ := Aside0.mk (Kd.R_below (by (with_reducible repeat (first | apply Kd.R_alloc | apply Kd.R_drewN | apply Kd.R_drew)); exact HO323.out) hb); have n2_ := Aside0.mk (Kd.R_below (by (with_reducible repeat (first | apply Kd.R_alloc | apply Kd.R_drewN | apply Kd.R_drew)); exact HO328.out) hb); have n3_ := Aside0.mk (below_step (by repeat (first | (with_reducible first | exact HB.out | apply below_alloc | apply pw_below_drewN | apply below_drew1) | exact HB.out)) hb); clear HO318; clear HO323; clear HO328; clear HB; have HO318 := n0_; have HO323 := n1_; have HO328 := n2_; have HB := n3_; clear n0_ n1_ n2_ n3_; (try clear hb); (try clear hb2); (try clear hk); (try clear hi))))
                    go_ret
                    exact ⟨by first | rfl | (simp [errW_none, errW_some] <;> rfl) | (simp [*, errW_none, errW_some] <;> rfl), by repeat (first | (with_reducible first | exact HB.out | apply below_alloc | apply pw_below_drewN | apply below_drew1) | exact HB.out)⟩
                  · rw [if_neg c58] at H
                    have c58b0 : (t326 == 0) = false := beq_eq_false_iff_ne.mpr c58
                    have c58b1 : (t326 != 0) = true := bne_iff_ne.mpr c58
                    obtain rfl := Option.some.inj H
                    go_wp2_with (first | (go_at_call 8; refine calls_of_args (args' := #[.string a0]) (by first | rfl) ?_; (with_reducible refine (lex_Scan.calls kj4 a0 t314 t315 t316 _ A12.out (Tabs.below HT.out (by repeat (first | (with_reducible first | exact HB.out | apply below_alloc | apply pw_below_drewN | apply below_drew1) | exact HB.out)))).mono ?_); rintro e w63 ⟨v317, rfl, ho0, hb⟩; have n0_ := Aside0.mk (Kd.R_lower ho0 (below_size (by repeat (first | (with_reducible first | exact HB.out | apply below_alloc | apply pw_below_drewN | apply below_drew1) | exact HB.out)))); have n1_ := Aside0.mk (below_step (by repeat (first | (with_reducible first | exact HB.out | apply below_alloc | apply pw_below_drewN | apply below_drew1) | exact HB.out)) hb); clear HB; have HO318 := n0_; have HB := n1_; clear n0_ n1_; (try clear hb); (try clear hb2); (try clear hk); (try clear hi); (try clear ho0)) | (go_at_call 8; refine calls_of_args (args' := #[.string a1]) (by first | rfl) ?_; (with_reducible refine (lex_Scan.calls kj4 a1 t319 t320 t321 _ A13.out (Tabs.below HT.out (by repeat (first | (with_reducible first | exact HB.out | apply below_alloc | apply pw_below_drewN | apply below_drew1) | exact HB.out)))).mono ?_); rintro e w64 ⟨v322, rfl, ho0, hb⟩; have n0_ := Aside0.mk (Kd.R_elder' (by (with_reducible repeat (first | apply Kd.R_alloc | apply Kd.R_drewN | apply Kd.R_drew)); exact HO318.out) (Kd.R_base ho0) hb); have n1_ := Aside0.mk (Kd.R_lower (Kd.R_new' ho0 (Kd.R_lt (by (with_reducible repeat (first | apply Kd.R_alloc | apply Kd.R_drewN | apply Kd.R_drew)); exact HO318.out))) (below_size (by repeat (first | (with_reducible first | exact HB.out | apply below_alloc | apply pw_below_drewN | apply below_drew1) | exact HB.out)))); have n2_ := Aside0.mk (below_step (by repeat (first | (with_reducible first | exact HB.out | apply below_alloc | apply pw_below_drewN | apply below_drew1) | exact HB.out)) hb); clear HO318; clear HB; have HO318 := n0_; have HO323 := n1_; have HB := n2_; clear n0_ n1_ n2_; (try clear hb); (try clear hb2); (try clear hk); (try clear hi); (try clear ho0)) | (go_at_call 8; refine calls_of_args (args' := #[.string ((a0 ++ (⟨#[10]⟩ : ByteArray)) ++ a1)]) (by first | rfl) ?_; (with_reducible refine (lex_Scan.calls kj4 ((a0 ++ (⟨#[10]⟩ : ByteArray)) ++ a1) t324 t325 t326 _ A16.out (Tabs.below HT.out (by repeat (first | (with_reducible first | exact HB.out | apply below_alloc | apply pw_below_drewN | apply below_drew1) | exact HB.out)))).mono ?_); rintro e w65 ⟨v327, rfl, ho0, hb⟩; have n0_ := Aside0.mk (Kd.R_elder' (by (with_reducible repeat (first | apply Kd.R_alloc | apply Kd.R_drewN | apply Kd.R_drew)); exact HO318.out) (Kd.R_base ho0) hb); have n1_ := Aside0.mk (Kd.R_elder' (by (with_reducible repeat (first | apply Kd.R_alloc | apply Kd.R_drewN | apply Kd.R_drew)); exact HO323.out) (Kd.R_base ho0) hb); have n2_ := Aside0.mk (Kd.R_lower (Kd.R_new' (Kd.R_new' ho0 (Kd.R_lt (by (with_reducible repeat (first | apply Kd.R_alloc | apply Kd.R_drewN | apply Kd.R_drew)); exact HO318.out))) (Kd.R_lt (by (with_reducible repeat (first | apply Kd.R_alloc | apply Kd.R_drewN | apply Kd.R_drew)); exact HO323.out))) (below_size (by repeat (first | (with_reducible first | exact HB.out | apply below_alloc | apply pw_below_drewN | apply below_drew1) | exact HB.out)))); have n3_ := Aside0.mk (below_step (by repeat (first | (with_reducible first | exact HB.out | apply below_alloc | apply pw_below_drewN | apply below_drew1) | exact HB.out)) hb); clear HO318; clear HO323; clear HB; have HO318 := n0_; have HO323 := n1_; have HO328 := n2_; have HB := n3_; clear n0_ n1_ n2_ n3_; (try clear hb); (try clear hb2); (try clear hk); (try clear hi); (try clear ho0)) | (go_at_call 7; refine calls_of_args (args' := #[]) (by first | rfl) ?_; (with_reducible refine (switchyardlaw07_awake.calls kj4  true _ A56.out (Tabs.below HT.out (by repeat (first | (with_reducible first | exact HB.out | apply below_alloc | apply pw_below_drewN | apply below_drew1) | exact HB.out)))).mono ?_); rintro e w66 ⟨rfl, hb⟩; have n0_ := Aside0.mk (Kd.R_below (by (with_reducible repeat (first | apply Kd.R_alloc | apply Kd.R_drewN | apply Kd.R_drew)); exact HO318.out) hb); have n1_ := Aside0.mk (Kd.R_below (by (with_reducible repeat (first | apply Kd.R_alloc | apply Kd.R_drewN | apply Kd.R_drew)); exact HO323.out) hb); have n2_ := Aside0.mk (Kd.R_below (by (with_reducible repeat (first | apply Kd.R_alloc | apply Kd.R_drewN | apply Kd.R_drew)); exact HO328.out) hb); have n3_ := Aside0.mk (below_step (by repeat (first | (with_reducible first | exact HB.out | apply below_alloc | apply pw_below_drewN | apply below_drew1) | exact HB.out)) hb); clear HO318; clear HO323; clear HO328; clear HB; have HO318 := n0_; have HO323 := n1_; have HO328 := n2_; have HB := n3_; clear n0_ n1_ n2_ n3_; (try clear hb); (try clear hb2); (try clear hk); (try clear hi)))
                    repeat (go_quiet (first | (go_at_call 8; refine calls_of_args (args' := #[.string a0]) (by first | rfl) ?_; (with_reducible refine (lex_Scan.calls kj4 a0 t314 t315 t316 _ A12.out (Tabs.below HT.out (by repeat (first | (with_reducible first | exact HB.out | apply below_alloc | apply pw_below_drewN | apply below_drew1) | exact HB.out)))).mono ?_); rintro e w63 ⟨v317, rfl, ho0, hb⟩; have n0_ := Aside0.mk (Kd.R_lower ho0 (below_size (by repeat (first | (with_reducible first | exact HB.out | apply below_alloc | apply pw_below_drewN | apply below_drew1) | exact HB.out)))); have n1_ := Aside0.mk (below_step (by repeat (first | (with_reducible first | exact HB.out | apply below_alloc | apply pw_below_drewN | apply below_drew1) | exact HB.out)) hb); clear HB; have HO318 := n0_; have HB := n1_; clear n0_ n1_; (try clear hb); (try clear hb2); (try clear hk); (try clear hi); (try clear ho0)) | (go_at_call 8; refine calls_of_args (args' := #[.string a1]) (by first | rfl) ?_; (with_reducible refine (lex_Scan.calls kj4 a1 t319 t320 t321 _ A13.out (Tabs.below HT.out (by repeat (first | (with_reducible first | exact HB.out | apply below_alloc | apply pw_below_drewN | apply below_drew1) | exact HB.out)))).mono ?_); rintro e w64 ⟨v322, rfl, ho0, hb⟩; have n0_ := Aside0.mk (Kd.R_elder' (by (with_reducible repeat (first | apply Kd.R_alloc | apply Kd.R_drewN | apply Kd.R_drew)); exact HO318.out) (Kd.R_base ho0) hb); have n1_ := Aside0.mk (Kd.R_lower (Kd.R_new' ho0 (Kd.R_lt (by (with_reducible repeat (first | apply Kd.R_alloc | apply Kd.R_drewN | apply Kd.R_drew)); exact HO318.out))) (below_size (by repeat (first | (with_reducible first | exact HB.out | apply below_alloc | apply pw_below_drewN | apply below_drew1) | exact HB.out)))); have n2_ := Aside0.mk (below_step (by repeat (first | (with_reducible first | exact HB.out | apply below_alloc | apply pw_below_drewN | apply below_drew1) | exact HB.out)) hb); clear HO318; clear HB; have HO318 := n0_; have HO323 := n1_; have HB := n2_; clear n0_ n1_ n2_; (try clear hb); (try clear hb2); (try clear hk); (try clear hi); (try clear ho0)) | (go_at_call 8; refine calls_of_args (args' := #[.string ((a0 ++ (⟨#[10]⟩ : ByteArray)) ++ a1)]) (by first | rfl) ?_; (with_reducible refine (lex_Scan.calls kj4 ((a0 ++ (⟨#[10]⟩ : ByteArray)) ++ a1) t324 t325 t326 _ A16.out (Tabs.below HT.out (by repeat (first | (with_reducible first | exact HB.out | apply below_alloc | apply pw_below_drewN | apply below_drew1) | exact HB.out)))).mono ?_); rintro e w65 ⟨v327, rfl, ho0, hb⟩; have n0_ := Aside0.mk (Kd.R_elder' (by (with_reducible repeat (first | apply Kd.R_alloc | apply Kd.R_drewN | apply Kd.R_drew)); exact HO318.out) (Kd.R_base ho0) hb); have n1_ := Aside0.mk (Kd.R_elder' (by (with_reducible repeat (first | apply Kd.R_alloc | apply Kd.R_drewN | apply Kd.R_drew)); exact HO323.out) (Kd.R_base ho0) hb); have n2_ := Aside0.mk (Kd.R_lower (Kd.R_new' (Kd.R_new' ho0 (Kd.R_lt (by (with_reducible repeat (first | apply Kd.R_alloc | apply Kd.R_drewN | apply Kd.R_drew)); exact HO318.out))) (Kd.R_lt (by (with_reducible repeat (first | apply Kd.R_alloc | apply Kd.R_drewN | apply Kd.R_drew)); exact HO323.out))) (below_size (by repeat (first | (with_reducible first | exact HB.out | apply below_alloc | apply pw_below_drewN | apply below_drew1) | exact HB.out)))); have n3_ := Aside0.mk (below_step (by repeat (first | (with_reducible first | exact HB.out | apply below_alloc | apply pw_below_drewN | apply below_drew1) | exact HB.out)) hb); clear HO318; clear HO323; clear HB; have HO318 := n0_; have HO323 := n1_; have HO328 := n2_; have HB := n3_; clear n0_ n1_ n2_ n3_; (try clear hb); (try clear hb2); (try clear hk); (try clear hi); (try clear ho0)) | (go_at_call 7; refine calls_of_args (args' := #[]) (by first | rfl) ?_; (with_reducible refine (switchyardlaw07_awake.calls kj4  true _ A56.out (Tabs.below HT.out (by repeat (first | (with_reducible first | exact HB.out | apply below_alloc | apply pw_below_drewN | apply below_drew1) | exact HB.out)))).mono ?_); rintro e w66 ⟨rfl, hb⟩; have n0_ := Aside0.mk (Kd.R_below (by (with_reducible repeat (first | apply Kd.R_alloc | apply Kd.R_drewN | apply Kd.R_drew)); exact HO318.out) hb); have n1_ := Aside0.mk (Kd.R_below (by (with_reducible repeat (first | apply Kd.R_alloc | apply Kd.R_drewN | apply Kd.R_drew)); exact HO323.out) hb); have n2_ := Aside0.mk (Kd.R_below (by (with_reducible repeat (first | apply Kd.R_alloc | apply Kd.R_drewN | apply Kd.R_drew)); exact HO328.out) hb); have n3_ := Aside0.mk (below_step (by repeat (first | (with_reducible first | exact HB.out | apply below_alloc | apply pw_below_drewN | apply below_drew1) | exact HB.out)) hb); clear HO318; clear HO323; clear HO328; clear HB; have HO318 := n0_; have HO323 := n1_; have HO328 := n2_; have HB := n3_; clear n0_ n1_ n2_ n3_; (try clear hb); (try clear hb2); (try clear hk); (try clear hi))); try go_wp2_with (first | (go_at_call 8; refine calls_of_args (args' := #[.string a0]) (by first | rfl) ?_; (with_reducible refine (lex_Scan.calls kj4 a0 t314 t315 t316 _ A12.out (Tabs.below HT.out (by repeat (first | (with_reducible first | exact HB.out | apply below_alloc | apply pw_below_drewN | apply below_drew1) | exact HB.out)))).mono ?_); rintro e w63 ⟨v317, rfl, ho0, hb⟩; have n0_ := Aside0.mk (Kd.R_lower ho0 (below_size (by repeat (first | (with_reducible first | exact HB.out | apply below_alloc | apply pw_below_drewN | apply below_drew1) | exact HB.out)))); have n1_ := Aside0.mk (below_step (by repeat (first | (with_reducible first | exact HB.out | apply below_alloc | apply pw_below_drewN | apply below_drew1) | exact HB.out)) hb); clear HB; have HO318 := n0_; have HB := n1_; clear n0_ n1_; (try clear hb); (try clear hb2); (try clear hk); (try clear hi); (try clear ho0)) | (go_at_call 8; refine calls_of_args (args' := #[.string a1]) (by first | rfl) ?_; (with_reducible refine (lex_Scan.calls kj4 a1 t319 t320 t321 _ A13.out (Tabs.below HT.out (by repeat (first | (with_reducible first | exact HB.out | apply below_alloc | apply pw_below_drewN | apply below_drew1) | exact HB.out)))).mono ?_); rintro e w64 ⟨v322, rfl, ho0, hb⟩; have n0_ := Aside0.mk (Kd.R_elder' (by (with_reducible repeat (first | apply Kd.R_alloc | apply Kd.R_drewN | apply Kd.R_drew)); exact HO318.out) (Kd.R_base ho0) hb); have n1_ := Aside0.mk (Kd.R_lower (Kd.R_new' ho0 (Kd.R_lt (by (with_reducible repeat (first | apply Kd.R_alloc | apply Kd.R_drewN | apply Kd.R_drew)); exact HO318.out))) (below_size (by repeat (first | (with_reducible first | exact HB.out | apply below_alloc | apply pw_below_drewN | apply below_drew1) | exact HB.out)))); have n2_ := Aside0.mk (below_step (by repeat (first | (with_reducible first | exact HB.out | apply below_alloc | apply pw_below_drewN | apply below_drew1) | exact HB.out)) hb); clear HO318; clear HB; have HO318 := n0_; have HO323 := n1_; have HB := n2_; clear n0_ n1_ n2_; (try clear hb); (try clear hb2); (try clear hk); (try clear hi); (try clear ho0)) | (go_at_call 8; refine calls_of_args (args' := #[.string ((a0 ++ (⟨#[10]⟩ : ByteArray)) ++ a1)]) (by first | rfl) ?_; (with_reducible refine (lex_Scan.calls kj4 ((a0 ++ (⟨#[10]⟩ : ByteArray)) ++ a1) t324 t325 t326 _ A16.out (Tabs.below HT.out (by repeat (first | (with_reducible first | exact HB.out | apply below_alloc | apply pw_below_drewN | apply below_drew1) | exact HB.out)))).mono ?_); rintro e w65 ⟨v327, rfl, ho0, hb⟩; have n0_ := Aside0.mk (Kd.R_elder' (by (with_reducible repeat (first | apply Kd.R_alloc | apply Kd.R_drewN | apply Kd.R_drew)); exact HO318.out) (Kd.R_base ho0) hb); have n1_ := Aside0.mk (Kd.R_elder' (by (with_reducible repeat (first | apply Kd.R_alloc | apply Kd.R_drewN | apply Kd.R_drew)); exact HO323.out) (Kd.R_base ho0) hb); have n2_ := Aside0.mk (Kd.R_lower (Kd.R_new' (Kd.R_new' ho0 (Kd.R_lt (by (with_reducible repeat (first | apply Kd.R_alloc | apply Kd.R_drewN | apply Kd.R_drew)); exact HO318.out))) (Kd.R_lt (by (with_reducible repeat (first | apply Kd.R_alloc | apply Kd.R_drewN | apply Kd.R_drew)); exact HO323.out))) (below_size (by repeat (first | (with_reducible first | exact HB.out | apply below_alloc | apply pw_below_drewN | apply below_drew1) | exact HB.out)))); have n3_ := Aside0.mk (below_step (by repeat (first | (with_reducible first | exact HB.out | apply below_alloc | apply pw_below_drewN | apply below_drew1) | exact HB.out)) hb); clear HO318; clear HO323; clear HB; have HO318 := n0_; have HO323 := n1_; have HO328 := n2_; have HB := n3_; clear n0_ n1_ n2_ n3_; (try clear hb); (try clear hb2); (try clear hk); (try clear hi); (try clear ho0)) | (go_at_call 7; refine calls_of_args (args' := #[]) (by first | rfl) ?_; (with_reducible refine (switchyardlaw07_awake.calls kj4  true _ A56.out (Tabs.below HT.out (by repeat (first | (with_reducible first | exact HB.out | apply below_alloc | apply pw_below_drewN | apply below_drew1) | exact HB.out)))).mono ?_); rintro e w66 ⟨rfl, hb⟩; have n0_ := Aside0.mk (Kd.R_below (by (with_reducible repeat (first | apply Kd.R_alloc | apply Kd.R_drewN | apply Kd.R_drew)); exact HO318.out) hb); have n1_ := Aside0.mk (Kd.R_below (by (with_reducible repeat (first | apply Kd.R_alloc | apply Kd.R_drewN | apply Kd.R_drew)); exact HO323.out) hb); have n2_ := Aside0.mk (Kd.R_below (by (with_reducible repeat (first | apply Kd.R_alloc | apply Kd.R_drewN | apply Kd.R_drew)); exact HO328.out) hb); have n3_ := Aside0.mk (below_step (by repeat (first | (with_reducible first | exact HB.out | apply below_alloc | apply pw_below_drewN | apply below_drew1) | exact HB.out)) hb); clear HO318; clear HO323; clear HO328; clear HB; have HO318 := n0_; have HO323 := n1_; have HO328 := n2_; have HB := n3_; clear n0_ n1_ n2_ n3_; (try clear hb); (try clear hb2); (try clear hk); (try clear hi))))
                    go_ret
                    exact ⟨by first | rfl | (simp [errW_none, errW_some] <;> rfl) | (simp [*, errW_none, errW_some] <;> rfl), by repeat (first | (with_reducible first | exact HB.out | apply below_alloc | apply pw_below_drewN | apply below_drew1) | exact HB.out)⟩
                · replace c57 := Bool.eq_false_iff.mpr c57
                  subst c57
                  have H1 : (none) = some r := by rw [if_neg (show ¬ (false = true) by decide)] at H; exact H
                  clear H
                  have H := H1
                  clear H1
                  exact absurd H (by simp)
            · rw [if_neg c15] at H
              exact absurd H (by simp)
          · rw [if_neg c14] at H
            exact absurd H (by simp)
  · replace c4 := Bool.eq_false_iff.mpr c4
    subst c4
    have H1 : (none) = some r := by rw [if_neg (show ¬ (false = true) by decide)] at H; exact H
    clear H
    have H := H1
    clear H1
    exact absurd H (by simp)
end Go.Proofs.YtdjcechogbcdnaaDoor.XL
namespace Go.Proofs.YtdjcechogbcdnaaDoor.XL
open Go.RowKit Go.Proofs.YtdjcechogbcdnaaDoorW.PrintWords Go.Proofs.YtdjcechogbcdnaaDoorW.PrintLast Go.Proofs.YtdjcechogbcdnaaDoorW.PrintMore
set_option linter.unusedVariables false
set_option linter.unusedSimpArgs false
theorem w_e1 (a b : Nat) (h1 : 1 ≤ a) (ha : a ≤ 8001) (hb : b ≤ 8001) : wrap64 (wrap64 ((a : Int) + (b : Int)) - 1) = ((a - 1 + b : Nat) : Int) := by
  rw [w_id (x := (a : Int) + (b : Int)) (by omega) (by omega), w_id (by omega) (by omega)]; omega
theorem w_e2 (i n : Nat) (h1 : 1 ≤ n) (h : n - 1 ≤ i) (hi : i ≤ 20000) (hn : n ≤ 20000) : wrap64 (wrap64 ((i : Int) - (n : Int)) + 1) = ((i - (n - 1) : Nat) : Int) := by
  have e : wrap64 ((i : Int) - (n : Int)) = (i : Int) - (n : Int) := by unfold wrap64; omega
  rw [e, w_id (by omega) (by omega)]; omega
theorem w_e3 (s : List UInt8) (hs : s.length ≤ 7000) : wrap64 (((mk s).size : Int) + 1) = ((s.length + 1 : Nat) : Int) := by rw [mk_size, w_id (by omega) (by omega)]; omega
theorem glues_loop (s : List UInt8) (hs : s.length ≤ 7000) (ta tb tc : List S32) (hta : ta.length ≤ 8001) (htb : tb.length ≤ 8001) (h1 : 1 ≤ ta.length) (hc : tc = ta.dropLast ++ tb.map (sh (s.length + 1))) (hat : ∀ t ∈ tb, 0 ≤ t.f3 ∧ t.f3 ≤ 8000) : ∀ d i : Nat, i + d = tc.length → Ev (fun k => switchyardlaw07_LexGlues.l0 k (mk s) ta tb tc (tc.length : Int) (i : Int)) true := by
  have hlen : tc.length = ta.length - 1 + tb.length := by rw [hc]; simp
  intro d
  induction d with
  | zero =>
    intro i hi
    refine Ev.step (fun k => by simp only [switchyardlaw07_LexGlues.l0]; rfl) (Ev.neg (by omega) ?_)
    exact Ev.bind awake_ev (Ev.now _)
  | succ d ih =>
    intro i hi
    have hit : i < tc.length := by omega
    have next := ih (i + 1) (by omega)
    have q1 : ta.length ≤ 4611686018427387904 := by omega
    have q2 : tc.length ≤ 9223372036854775807 := by omega
    refine Ev.step (fun k => by simp only [switchyardlaw07_LexGlues.l0]; rfl) ?_
    simp only [show wrap64 ((ta.length : Int) - 1) = ((ta.length - 1 : Nat) : Int) from w_sub (b := 1) h1 q1, wr_succ hit q2]
    refine Ev.pos (by omega) ?_
    rw [rdT_at tc i hit]
    by_cases hi1 : i < ta.length - 1
    · have hia : i < ta.length := by omega
      have hg : tc[i] = ta[i] := by
        subst hc
        rw [List.getElem_append_left (by rw [List.length_dropLast]; exact hi1), List.getElem_dropLast]
      rw [rdT_at ta i hia, hg]
      exact Ev.pos (by omega) (Ev.pos (by omega) (Ev.pos (by omega) (Ev.pos (by omega) (Ev.neg (by simp) next))))
    · have hj : i - (ta.length - 1) < tb.length := by omega
      have hb := hat _ (List.getElem_mem hj)
      have hg : tc[i] = sh (s.length + 1) (tb[i - (ta.length - 1)]) := by
        subst hc
        rw [List.getElem_append_right (by rw [List.length_dropLast]; omega), List.getElem_map]
        simp only [List.length_dropLast]
      have b1 : 0 ≤ (tb[i - (ta.length - 1)]).f3 + ((s.length + 1 : Nat) : Int) := by omega
      have b2 : (tb[i - (ta.length - 1)]).f3 + ((s.length + 1 : Nat) : Int) ≤ 9223372036854775807 := by omega
      have b3 : ta.length - 1 ≤ i := by omega
      have b4 : i ≤ 20000 := by omega
      have b5 : ta.length ≤ 20000 := by omega
      simp only [w_e2 i ta.length h1 b3 b4 b5, w_e3 s hs, rdT_at tb _ hj, hg, w_id b1 b2]
      refine Ev.neg (by omega) (Ev.pos (by omega) (Ev.pos (by omega) (Ev.pos (by omega) (Ev.pos (by omega) (Ev.neg ?_ next)))))
      simp [sh]
theorem lexGlues_ev (a0 a1 : ByteArray) (hz0 : a0.size ≤ 140737488351232) (hz1 : a1.size ≤ 140737488351232) : Ev (fun k => switchyardlaw07_LexGlues.f k a0 a1) true := by
  rw [← mk_data a0, ← mk_data a1]
  have k0 : a0.data.toList.length ≤ 140737488351232 := hz0
  have k1 : a1.data.toList.length ≤ 140737488351232 := hz1
  clear hz0 hz1
  generalize a0.data.toList = s at k0 ⊢
  generalize a1.data.toList = t at k1 ⊢
  have long : Ev (fun k => switchyardlaw07_LexGlues.j0 k (mk s) (mk t) true) true := by
    refine Ev.step (fun k => by simp only [switchyardlaw07_LexGlues.j0]; rfl) ?_
    exact Ev.pos (by trivial) (Ev.bind awake_ev (Ev.now _))
  have e0 : wrap64 (((mk s).size : Int) + ((mk t).size : Int)) = ((s.length + t.length : Nat) : Int) := by rw [mk_size, mk_size]; exact w_add (by omega)
  unfold switchyardlaw07_LexGlues.f
  refine Ev.bind awake_ev (Ev.pos rfl ?_)
  rw [e0]
  clear e0
  by_cases h7 : s.length + t.length ≤ 7000
  · refine Ev.neg (by omega) (Ev.neg (by rw [mk_size]; omega) ?_)
    rw [show decide (((mk t).size : Int) > 7000) = false from decide_eq_false (by rw [mk_size]; omega)]
    refine Ev.step (fun k => by simp only [switchyardlaw07_LexGlues.j0]; rfl) (Ev.neg (by simp) ?_)
    refine Ev.bind (scan_ev s (by omega)) (Ev.bind (scan_ev t (by omega)) (Ev.pos (by rw [mk_size]; omega) (Ev.pos (by
      have e : mk s ++ (⟨#[10]⟩ : ByteArray) = mk (s ++ [10]) := mk_append s [10]
      rw [e, mk_size, mk_size, List.length_append]; simp; omega) ?_)))
    have hap : (mk s ++ (⟨#[10]⟩ : ByteArray)) ++ mk t = mk (s ++ 10 :: t) := by
      have e1 : mk s ++ (⟨#[10]⟩ : ByteArray) = mk (s ++ [10]) := mk_append s [10]
      rw [e1, mk_append]; simp
    rw [hap]
    refine Ev.bind (scan_ev (s ++ 10 :: t) (by rw [List.length_append, List.length_cons]; omega)) ?_
    rw [scanW_zero, scanW_zero, scanW_zero]
    have gy : Gap (10 :: t) := Or.inr ⟨10, t, rfl, by decide⟩
    have hsh := scanW_shift (s.length + 1) 0 t
    rw [Nat.zero_add] at hsh
    cases ha : scanW 0 s with
    | inr e =>
      refine Ev.neg (by simp [scanRes]) (Ev.bind awake_ev (Ev.pos rfl ?_))
      cases hc : scanW 0 (s ++ 10 :: t) with
      | inl us => exact Ev.pos rfl (Ev.now _)
      | inr e' =>
        have := scanW_err gy 0 s e ha e' hc
        refine Ev.neg (by simp [scanRes]) (Ev.val ?_)
        exact decide_eq_true (by simp only [scanRes]; omega)
    | inl ta =>
      have hg := scanW_glue t 0 s ta ha
      rw [Nat.zero_add, hsh] at hg
      refine Ev.pos rfl ?_
      cases hb : scanW 0 t with
      | inr e =>
        rw [hb] at hg
        rw [hg]
        exact Ev.neg (by simp [scanRes]) (Ev.bind awake_ev (Ev.pos rfl (Ev.val rfl)))
      | inl tb =>
        rw [hb] at hg
        rw [hg]
        have hne := scanW_ne ha
        have hpos : 1 ≤ ta.length := List.length_pos_iff.2 hne
        have hta := scan_len _ _ _ _ ha
        have htb := scan_len _ _ _ _ hb
        simp only [shR, onto, scanRes, List.nil_append]
        have hcl : (ta.dropLast ++ tb.map (sh (s.length + 1))).length = ta.length - 1 + tb.length := by simp
        have e1 := w_e1 ta.length tb.length hpos (by omega) (by omega)
        have hjj : ((((ta.dropLast ++ tb.map (sh (s.length + 1))).length : Int)) != (wrap64 (wrap64 ((ta.length : Int) + (tb.length : Int)) - 1))) = false := by rw [e1, hcl]; simp
        clear e1
        refine Ev.pos (by trivial) (Ev.pos (by trivial) ?_)
        rw [hjj]
        refine Ev.step (fun k => by simp only [switchyardlaw07_LexGlues.j1]; rfl) (Ev.neg (by simp) ?_)
        refine glues_loop s (by omega) ta tb _ (by omega) (by omega) hpos rfl ?_ _ 0 (Nat.zero_add _)
        intro u hu
        have := scanW_at 0 t tb hb u hu
        omega
  · exact Ev.pos (by omega) long
end Go.Proofs.YtdjcechogbcdnaaDoor.XL
namespace Go.Proofs.YtdjcechogbcdnaaDoor.XL
open Go.RowKit Go.Proofs.YtdjcechogbcdnaaDoorW.PrintWords Go.Proofs.YtdjcechogbcdnaaDoorW.PrintLast Go.Proofs.YtdjcechogbcdnaaDoorW.PrintMore
set_option linter.unusedVariables false in
theorem glues_walk (a0 a1 : ByteArray) (W : World) (hG0 : a0.size ≤ 140737488351232) (hG1 : a1.size ≤ 140737488351232) (hT : Tabs W) :
    Calls Tryd.prog 5 #[.string a0, .string a1] W fun e w' => e = .returned (.bool true) ∧ Below W.heap.size W w' := by
  obtain ⟨k, hk⟩ := Ev.rounds (lexGlues_ev a0 a1 hG0 hG1)
  exact switchyardlaw07_LexGlues.calls k a0 a1 true W hk hT
end Go.Proofs.YtdjcechogbcdnaaDoor.XL
namespace Go.Proofs.YtdjcechogbcdnaaDoor.Open
open Go.RowKit Go.Proofs.YtdjcechogbcdnaaDoorW.PrintWords
set_option linter.unusedVariables false
/-- Whatever reads as data of type t, with rounds up to n and all its weights within the reach, is a value of the kind k that meets G. -/
def Opens {α : Type} (n : Nat) (P : Program) (t : TypeId) (k : Kd α) (G : α → Prop) : Prop :=
  ∀ (H : Type) (enc : TypeId × Value → H) (w : World) (sp : Nat → Bool) (held : Bool) (fuel : Nat) (cs : List Value) (x : DataW H × List MemPlace), fuel ≤ n →
    DataW.trod enc P w 0 sp held fuel t cs = some x → (∀ b ∈ x.1.weights P t, b ≤ reachBytes) → ∃ v, k.K w v cs ∧ G v
theorem Opens.zero {α : Type} {P : Program} {t : TypeId} {k : Kd α} {G : α → Prop} : Opens 0 P t k G := by
  intro H enc w sp held fuel cs x hf ht hw
  obtain rfl : fuel = 0 := by omega
  simp [DataW.trod] at ht
/-- Fields in line, from the offset on. -/
def OpensF {α : Type} (n : Nat) (P : Program) (off : Nat) (fs : List Field) (k : Kd α) (G : α → Prop) : Prop :=
  ∀ (H : Type) (enc : TypeId × Value → H) (w : World) (sp : Nat → Bool) (held : Bool) (fuel : Nat) (cs : List Value) (xs : List (DataW H × List MemPlace)), fuel ≤ n → cs.length = off + k.sz → xs.length = fs.length →
    (∀ (i : Nat) (f : Field), fs[i]? = some f → DataW.trod enc P w 0 sp held fuel f.type ((cs.drop f.offset).take (P.cellsOf f.type)) = xs[i]?) →
    (∀ b ∈ DataW.weightsEach P (fs.map Field.type) (xs.map (·.1)), b ≤ reachBytes) → ∃ v, k.K w v (cs.drop off) ∧ G v
theorem OpensF.last {α : Type} {n : Nat} {P : Program} {off : Nat} {f : Field} {k : Kd α} {G : α → Prop} (ho : f.offset = off) (hc : P.cellsOf f.type = k.sz) (h : Opens n P f.type k G) : OpensF n P off [f] k G := by
  intro H enc w sp held fuel cs xs hf hl hxl hall hw
  match xs, hxl with
  | [x], _ =>
    have h1 := hall 0 f rfl
    rw [ho, hc, List.take_of_length_le (by rw [List.length_drop]; omega)] at h1
    exact h H enc w sp held fuel _ x hf h1 (fun b hb => hw b (by simpa [DataW.weightsEach] using hb))
theorem OpensF.cons {α β : Type} {n : Nat} {P : Program} {off : Nat} {f : Field} {fs : List Field} {k : Kd α} {k' : Kd β} {G : α → Prop} {G' : β → Prop} (ho : f.offset = off) (hc : P.cellsOf f.type = k.sz)
    (h : Opens n P f.type k G) (h' : OpensF n P (off + k.sz) fs k' G') : OpensF n P off (f :: fs) (Kd.pair k k') (fun v => G v.1 ∧ G' v.2) := by
  intro H enc w sp held fuel cs xs hf hl hxl hall hw
  match xs, hxl with
  | x :: xs, hxl =>
    have hl' : cs.length = off + (k.sz + k'.sz) := hl
    have h1 := hall 0 f rfl
    rw [ho, hc] at h1
    obtain ⟨v, hk, hg⟩ := h H enc w sp held fuel _ x hf h1 (fun b hb => hw b (by simp only [List.map_cons, DataW.weightsEach, List.mem_append]; exact Or.inl hb))
    obtain ⟨v', hk', hg'⟩ := h' H enc w sp held fuel cs xs hf (by omega) (by simpa using hxl) (fun i g hi => by simpa using hall (i + 1) g (by simpa using hi)) (fun b hb => hw b (by simp only [List.map_cons, DataW.weightsEach, List.mem_append]; exact Or.inr hb))
    refine ⟨(v, v'), ⟨_, _, ?_, hk, hk'⟩, hg, hg'⟩
    rw [← List.drop_drop]
    exact (List.take_append_drop _ _).symm
/-- A kind told otherwise. -/
theorem Opens.of {α β : Type} {n : Nat} {P : Program} {t : TypeId} {k : Kd α} {k' : Kd β} {G : α → Prop} {G' : β → Prop} (h : Opens n P t k G) (f : α → β) (hk : ∀ w v cs, k.K w v cs → k'.K w (f v) cs) (hg : ∀ v, G v → G' (f v)) : Opens n P t k' G' := by
  intro H enc w sp held fuel cs x hf ht hw
  obtain ⟨v, hkv, hv⟩ := h H enc w sp held fuel cs x hf ht hw
  exact ⟨f v, hk _ _ _ hkv, hg v hv⟩
theorem tab_of_reads {P : Program} {W : World} {l : List (String × DataW Unit)} {name : String} {k : IntKind} {zs : List Int} {g : Nat} {t e : TypeId} {n : Nat} (hp : (l.all fun x => x.2.handleName?.isNone) = true) (h : laidMetH P l W) (hm : (name, Lib.tabData k zs) ∈ l)
    (hg : P.globalNamed name = some g) (hty : (P.globals[g]?).map (·.type) = some t) (ht : P.underlying t = some (.array n e)) (he : P.underlying e = some (.int k)) (hce : P.cellsOf e = 1) (hct : P.cellsOf t = n) : Lib.TabIs P W name k zs := by
  rw [MakeChecks.laidMetH_plain _ _ _ hp] at h
  obtain ⟨g', t', cs, fuel, p, hg', ht', hvar, hd⟩ := Lib.laidMet.reads h hm
  obtain rfl := Option.some.inj (hg.symm.trans hg')
  obtain rfl := Option.some.inj (hty.symm.trans ht')
  unfold Lib.TabIs
  rw [hvar, ← Lib.cells_of_tab ht he hce hct hd]
theorem arg_weights {H : Type} {P : Program} {ts : List TypeId} {ds : List (DataW H)} (hsz : (DataW.weightsEach P ts ds).all (· ≤ reachBytes) = true) {j : Nat} {t : TypeId} {d : DataW H} (ht : ts[j]? = some t) (hd : ds[j]? = some d) : ∀ b ∈ d.weights P t, b ≤ reachBytes := by
  intro b hb
  simpa using List.all_eq_true.1 hsz _ (DataW.weights_mem_each ht hd b hb)
end Go.Proofs.YtdjcechogbcdnaaDoor.Open
namespace Go.Proofs.YtdjcechogbcdnaaDoor.XL
open Go.RowKit Go.Proofs.YtdjcechogbcdnaaDoorW.PrintWords Go.Proofs.YtdjcechogbcdnaaDoor.Open
theorem cells_of_strs {H : Type} {enc : TypeId × Value → H} {P : Program} {w : World} {base : Nat} {sp : Nat → Bool} {held : Bool} {fuel : Nat} {t e : TypeId} {n : Nat} {cs : List Value} {zs : List (List UInt8)} {p : List MemPlace}
    (ht : P.underlying t = some (.array n e)) (he : P.underlying e = some .string) (hce : P.cellsOf e = 1) (hct : P.cellsOf t = n)
    (h : DataW.trod enc P w base sp held fuel t cs = some (.agg (zs.map fun z => .lit (.string z)), p)) : cs = zs.map fun z => Value.string ⟨z.toArray⟩ := by
  cases fuel with
  | zero => simp [DataW.trod] at h
  | succ fuel =>
    simp only [DataW.trod, ht, hce, hct, Nat.mul_one] at h
    split at h
    · rename_i hl
      obtain ⟨xs, hm, hx⟩ := Option.map_eq_some_iff.1 h
      have hxs : xs.map (·.1) = zs.map fun z => (DataW.lit (.string z) : DataW H) := by
        have := congrArg Prod.fst hx
        simpa using this
      have hxl : xs.length = n := by simpa using Lib.mapM_length hm
      have hzl : zs.length = n := by
        have := congrArg List.length hxs
        simp at this
        omega
      apply List.ext_getElem?
      intro i
      by_cases hi : i < n
      · obtain ⟨b, hb, hf⟩ := Lib.mapM_at hm i i (by simp [hi])
        obtain ⟨s, hc, hb2, _⟩ := DataW.trod_string he hf
        have h1 : cs[i]? = some (.string s) := by
          have := congrArg (·[0]?) hc
          simpa [List.getElem?_take, List.getElem?_drop] using this
        have h2 : (xs.map (·.1))[i]? = some (DataW.lit (.string s.data.toList) : DataW H) := by simp [hb, hb2]
        rw [hxs] at h2
        simp only [List.getElem?_map, Option.map_eq_some_iff, DataW.lit.injEq, Lit.string.injEq] at h2
        obtain ⟨z', hz', hz2⟩ := h2
        have e : (⟨z'.toArray⟩ : ByteArray) = s := by rw [hz2]
        simp [h1, hz', e]
      · rw [List.getElem?_eq_none (by omega), List.getElem?_eq_none (by simp; omega)]
    · cases h
theorem strs_of_reads {P : Program} {W : World} {l : List (String × DataW Unit)} {name : String} (zs : List (List UInt8)) {g : Nat} {t e : TypeId} {n : Nat} (hp : (l.all fun x => x.2.handleName?.isNone) = true) (h : laidMetH P l W) (hm : (name, .agg (zs.map fun z => .lit (.string z))) ∈ l)
    (hg : P.globalNamed name = some g) (hty : (P.globals[g]?).map (·.type) = some t) (ht : P.underlying t = some (.array n e)) (he : P.underlying e = some .string) (hce : P.cellsOf e = 1) (hct : P.cellsOf t = n) : W.var? P name = some (zs.map fun z => Value.string ⟨z.toArray⟩).toArray := by
  rw [MakeChecks.laidMetH_plain _ _ _ hp] at h
  obtain ⟨g', t', cs, fuel, p, hg', ht', hvar, hd⟩ := Lib.laidMet.reads h hm
  obtain rfl := Option.some.inj (hg.symm.trans hg')
  obtain rfl := Option.some.inj (hty.symm.trans ht')
  rw [hvar, ← cells_of_strs ht he hce hct hd]
theorem iface_of_reads {P : Program} {W : World} {l : List (String × DataW Unit)} {name nm : String} {d : DataW Unit} {g : Nat} {t : TypeId} {ms : Array (String × TypeId)} (hp : (l.all fun x => x.2.handleName?.isNone) = true) (h : laidMetH P l W) (hm : (name, .iface nm d) ∈ l)
    (hg : P.globalNamed name = some g) (hty : (P.globals[g]?).map (·.type) = some t) (ht : P.underlying t = some (.interface ms)) : ∃ tp p, W.var? P name = some #[.iface tp p] := by
  rw [MakeChecks.laidMetH_plain _ _ _ hp] at h
  obtain ⟨g', t', cs, fuel, p, hg', ht', hvar, hd⟩ := Lib.laidMet.reads h hm
  obtain rfl := Option.some.inj (hg.symm.trans hg')
  obtain rfl := Option.some.inj (hty.symm.trans ht')
  obtain ⟨f1, u, v, hcs, _, _⟩ := iface_of_trod ht hd
  refine ⟨u, v, ?_⟩
  rw [hvar]
  congr 1
  apply Array.toList_inj.1
  exact hcs
end Go.Proofs.YtdjcechogbcdnaaDoor.XL
namespace Go.Proofs.YtdjcechogbcdnaaDoor.lexGlues
open Go.ChangeShapes Go.WideShapes Go.ChangeAt Go.RowKit
open Go.ChangeMaps (open_string shut_string)
open Go.Proofs.YtdjcechogbcdnaaDoorW.PrintWords Go.Proofs.YtdjcechogbcdnaaDoor.Open Go.Proofs.YtdjcechogbcdnaaDoor.XL
set_option linter.unusedVariables false
theorem door_met (os : Os) (args : Array Value) : laidMetH Tryd.prog Rows.lexGluesRow.laid ((World.doorLaid Tryd.prog 400 os).forCall (fun _ _ => 0) ⟨#[], args, []⟩).memory :=
  laidMetH_of_parts3 (fuel := 8) (laidMet_of_run' 8 (by kernel_rfl) (by kernel_rfl)) (by kernel_rfl) (by kernel_rfl)
theorem tabs_of {W : World} (h : laidMetH Tryd.prog Rows.lexGluesRow.laid W) : Tabs W :=
  ⟨tab_of_reads (by kernel_rfl) h (by exact .tail _ (.tail _ (.head _))) (g := 4) (by kernel_rfl) (by kernel_rfl) (n := 20) Tryd.underlying102 Tryd.underlying70 (by kernel_rfl) (by kernel_rfl), strs_of_reads signL (by kernel_rfl) h (by exact .tail _ (.tail _ (.tail _ (.tail _ (.tail _ (.head _)))))) (g := 0) (by kernel_rfl) (by kernel_rfl) (n := 27) Tryd.underlying51 Tryd.underlying9 (by kernel_rfl) (by kernel_rfl), iface_of_reads (by kernel_rfl) h (by exact .tail _ (.tail _ (.tail _ (.head _)))) (g := 3) (by kernel_rfl) (by kernel_rfl) Tryd.underlying46, iface_of_reads (by kernel_rfl) h (by exact .tail _ (.tail _ (.tail _ (.tail _ (.head _))))) (g := 2) (by kernel_rfl) (by kernel_rfl) Tryd.underlying46⟩
theorem own : ownKnob Tryd.prog.godebug = none := by kernel_rfl
theorem laidOut : laidOutB Tryd.prog = true := by kernel_rfl
set_option maxRecDepth 100000 in
theorem lifted (os : Os) (started : os.Started) (H : Type) (enc : TypeId × Value → H) :
    ReturnsInHanded {} Tryd.checked os 5 .any (fun w args => (Rows.lexGluesSpec.pre enc Tryd.prog Tryd.f5 [] false w args ∧ laidMetH Tryd.prog Rows.lexGluesRow.laid w) ∧ sizedMet enc Tryd.prog Tryd.f5 (OpenSpec.ofChange Rows.lexGluesSpec) false w args) (Rows.lexGluesSpec.post enc Tryd.prog Tryd.f5 false true false false) := by
  refine returnsInHanded_of_change_and (C := Tryd.checked) (X := fun w _ => laidMetH Tryd.prog Rows.lexGluesRow.laid w) (fun _ _ _ hh h => h.of_heap hh) own started (by kernel_rfl) Tryd.func5
    (ChangeSpec.witness_shaped (enc := enc) (C := Tryd.checked) (os := os) (X := fun w _ => laidMetH Tryd.prog Rows.lexGluesRow.laid w) false (World.doorLaid Tryd.prog 400 os) #[.string ByteArray.empty, .string ByteArray.empty] 8 rfl (World.shaped_of_RefB (by kernel_rfl) (by kernel_rfl)) (by kernel_rfl) (by kernel_rfl) (by kernel_rfl) (door_met os _)) ?_
  intro W base args ds gs before hval0 hW hcnd hsz0 hL _
  have hsz : (DataW.weightsEach Tryd.prog (Tryd.f5.params.toList ++ Rows.lexGluesSpec.plain.varTypes Tryd.prog) (ds ++ gs)).all (· ≤ reachBytes) = true := hsz0
  have hval : ∀ (j : Nat) t v, Tryd.f5.params[j]? = some t → args[j]? = some v → Value.okWide Tryd.prog W .any base t v := hval0
  have hW' := hW
  obtain ⟨p, q, hA0, hV, rfl, hfz, hnd⟩ := hW
  have hA : DataW.TrodAll enc Tryd.prog W 0 (fun _ => true) true Tryd.f5.params.toList args.toList ds p := hA0
  rw [Tryd.params5] at hA hval hsz
  obtain ⟨v0, vs0, d0, ds0, p0, q0, hargs, rfl, rfl, h0, r0⟩ := trodAll_cons hA
  obtain ⟨v1, vs1, d1, ds1, p1, q1, rfl, rfl, rfl, h1, r1⟩ := trodAll_cons r0
  obtain ⟨rfl, rfl, rfl⟩ := trodAll_nil r1
  obtain rfl : args = #[v0, v1] := by cases args; simp_all
  obtain ⟨rfl, rfl⟩ := trodVars_none hV
  have k0 := h0
  have lt0 : ∀ x ∈ p0, x.block < W.heap.size := by obtain ⟨m, hm⟩ := k0; exact DataW.trod_lt m _ _ _ hm
  have wt0 := Open.arg_weights hsz (j := 0) (t := 9) (d := d0) rfl rfl
  obtain ⟨a0, rfl, rfl, rfl, y0⟩ := open_string Tryd.underlying9 (hval 0 9 v0 rfl rfl) h0
  have w0 : a0.size ≤ 140737488351232 := by
    have z := wt0 _ (List.mem_singleton.2 rfl)
    simpa [reachBytes] using z
  have k1 := h1
  have lt1 : ∀ x ∈ p1, x.block < W.heap.size := by obtain ⟨m, hm⟩ := k1; exact DataW.trod_lt m _ _ _ hm
  have wt1 := Open.arg_weights hsz (j := 1) (t := 9) (d := d1) rfl rfl
  obtain ⟨a1, rfl, rfl, rfl, y1⟩ := open_string Tryd.underlying9 (hval 1 9 v1 rfl rfl) h1
  have w1 : a1.size ≤ 140737488351232 := by
    have z := wt1 _ (List.mem_singleton.2 rfl)
    simpa [reachBytes] using z
  clear hA0 hval0 hsz0 hsz
  have hT := tabs_of hL
  refine (glues_walk a0 a1 W w0 w1 hT).mono fun e W' ⟨he, bel⟩ => ?_
  subst he
  exact ⟨_, rfl, _, _, _, [], _, [], hW', trodAll_mk1 (shut_bool Tryd.underlying4 _), (trodAll_cons_mk (Below.trod laidOut (by kernel_rfl) (of_decide_eq_true (by kernel_rfl)) k0 bel lt0) (trodAll_cons_mk (Below.trod laidOut (by kernel_rfl) (of_decide_eq_true (by kernel_rfl)) k1 bel lt1) trodAll_mk0)), rfl, bel.frame _, fun h => by cases h⟩
theorem over : Rows.lexGluesRow.holds Tryd.pinned (OpenSpec.ofChange Rows.lexGluesSpec) :=
  OpenClaim.holds_of_wide 5 Tryd.f5 rfl rfl rfl rfl rfl rfl rfl ⟨rfl, rfl, rfl, rfl, rfl⟩ rfl rfl rfl rfl rfl (by kernel_rfl) Tryd.func5 (by kernel_rfl)
    (of_decide_eq_true (by kernel_rfl)) (by unfold Func.isWrapper; first | (rw [if_pos (by decide +kernel)]; kernel_rfl) | (rw [if_neg (by decide +kernel)]; exact ⟨rfl, rfl⟩))
    (fun os started H enc _ => lifted os started H enc)
theorem proved : Rows.LexGluesSaid := over
theorem card_proved : Rows.LexGluesCardSaid :=
  Claim7.holds_tied_plain_at .later [] [.data, .data, .data, .sentinel, .sentinel, .data] true (true, "014ed79bff4ff950644538d023eda56c2caef8150cd3955ee4071edaba877566") true proved (fun _ h => by cases h) (by kernel_rfl) (fun _ h => by cases h) lexGlues_row_tie rfl ⟨rfl, rfl⟩ (by kernel_rfl) rfl
    (fun f fn hf hfn => by
      obtain rfl : f = 5 := Option.some.inj ((show Tryd.prog.funcNamed "switchyard/switchyardlaw07.LexGlues" = some 5 by kernel_rfl).symm.trans hf) |>.symm
      obtain rfl : fn = Tryd.f5 := (Option.some.inj (Tryd.func5.symm.trans hfn)).symm
      exact ⟨by kernel_rfl, fun j t ht => by
        rw [Tryd.params5] at ht
        have hm : t ∈ [9, 9] := by simpa using Array.mem_of_getElem? ht
        have hall : ([9, 9].all fun u => !Tryd.prog.wantsStandIn u) = true := by kernel_rfl
        exact (show Tryd.prog.wantsStandIn t = false by simpa using List.all_eq_true.1 hall t hm)⟩)
    (by kernel_rfl)
end Go.Proofs.YtdjcechogbcdnaaDoor.lexGlues
namespace Go.Proofs.YtdjcechogbcdnaaDoor
/-- The card, under a short name, for the claim. -/
theorem lexGlues_holds : Rows.LexGluesCardSaid := lexGlues.card_proved
end Go.Proofs.YtdjcechogbcdnaaDoor
