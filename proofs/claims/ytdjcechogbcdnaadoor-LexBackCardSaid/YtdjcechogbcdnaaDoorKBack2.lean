/- Words, printed functions and plain lemmas that the claim's theorem reaches (gathered by a program of this session out of its own and the print's texts). No conditions but those that each statement names. -/
import Derived.Test.YtdjcechogbcdnaaDoorKBack1
namespace Go.Proofs.YtdjcechogbcdnaaDoor.XL
open Go.RowKit Go.Proofs.YtdjcechogbcdnaaDoorW.PrintWords Go.Proofs.YtdjcechogbcdnaaDoorW.PrintLast Go.Proofs.YtdjcechogbcdnaaDoorW.PrintMore
attribute [local go_sem] max2_int min2_int max_two min_two max_three min_three max_four min_four   -- for this text's walks alone
set_option linter.unusedVariables false
set_option linter.unusedSimpArgs false
section
variable {ops : Array Oper} {rest : List Oper} {o : Oper} {a : Act} {Q : Exit → Act → World → Prop} {W : World}
def signV : Array Value := (signL.map fun z => Value.string ⟨z.toArray⟩).toArray
theorem signs_row {w : World} (h : Tabs w) : ∃ t fr, w.heap[0]? = some (.cells signV t fr) := by
  have h1 := h.signs
  unfold World.var? at h1
  rw [show Tryd.prog.globalNamed "switchyard/lex.signs" = some 0 by kernel_rfl] at h1
  simp only [Option.bind_some] at h1
  split at h1
  · rename_i cs t fr he
    obtain rfl := Option.some.inj h1
    exact ⟨t, fr, he⟩
  · cases h1
/-- The signs are loaded whole. -/
theorem load_signs (hgd : o.guard = none) (ho : o.op = .load 51 (.global 0)) (hT : Tabs W) (h : wpList Tryd.prog ops Q rest (a.put o.dst (.agg signV)) W) : wpList Tryd.prog ops Q (o :: rest) a W := by
  obtain ⟨t, fr, hg⟩ := signs_row hT
  exact wpList_load_row hgd 51 (.global 0) ho 0 rfl t signV fr (.array 27 9) hg (by kernel_rfl) rfl (by kernel_rfl) h
def signB (i : Nat) : ByteArray := ⟨(signL.getD i []).toArray⟩
theorem signV_get (i : Nat) (h : i < 27) : signV[i]? = some (.string (signB i)) := by
  have hl : i < signL.length := h
  unfold signV signB
  rw [List.getElem?_toArray, List.getElem?_map, List.getElem?_eq_getElem hl]
  simp [List.getD, hl]
/-- One of the signs. -/
theorem index_sign {x ix : Tmp} (i : Nat) (hi : i < 27) (hgd : o.guard = none) (ho : o.op = .index 51 (.tmp x) (.tmp ix)) (hx : a.eval (.tmp x) = .agg signV) (hix : a.eval (.tmp ix) = .int .i64 i) (h : wpList Tryd.prog ops Q rest (a.put o.dst (.string (signB i))) W) : wpList Tryd.prog ops Q (o :: rest) a W := by
  have hu : Tryd.prog.underlying 51 = some (.array 27 9) := by kernel_rfl
  have hn : (0 : Int) ≤ (i : Int) ∧ (i : Int) < (27 : Nat) := by omega
  have hrun : (Instr.index 51 (.agg signV) (.int .i64 i)).run Tryd.prog W = .ok (.string (signB i)) W := by
    have hq := signV_get i hi
    have hs : (Tryd.prog.info? 9).map (fun i => (i.zero, i.size, i.bytes)) = some (some (.string ⟨#[]⟩), 1, 16) := info9
    have hu9 := Tryd.underlying9
    obtain ⟨inf, hinf⟩ : ∃ inf, Tryd.prog.info? 9 = some inf := by
      cases he : Tryd.prog.info? 9 with
      | none => rw [he] at hs; cases hs
      | some inf => exact ⟨inf, rfl⟩
    have hsz : inf.size = 1 := by
      rw [hinf] at hs
      simp only [Option.map_some, Option.some.injEq, Prod.mk.injEq] at hs
      exact hs.2.1
    unfold Instr.index
    simp [run_underlying hu, asIntOf, hi, part, isAgg, run_underlying hu9, sizeOf, typeInfo, hinf, hsz, hq]
  refine wpList_plain hgd fun K hK => ?_
  unfold Oper.wp execOp
  simp only [ho, hx, hix, Sem.run_bind, Sem.run_pure, Result.andThen_ok, hrun]
  exact hK _ _ h
end
/-- A token, and how many bytes it has, of what a search among the signs gives. -/
def signRes : Option (List UInt8) → Int × ByteArray × Int × Int × Int
  | some z => (5, ⟨z.toArray⟩, 0, 0, z.length)
  | none => (0, (⟨#[]⟩ : ByteArray), 0, 0, 0)
/-- The first of the signs that stands at the front, as lex.token tells it. -/
def signAt (s : ByteArray) : Int × ByteArray × Int × Int × Int := signRes (signL.find? (fun z => z.isPrefixOf s.data.toList))
theorem mkb_toList (l : List UInt8) : (⟨l.toArray⟩ : ByteArray).toList = l := by rw [ByteArray.toList_eq]
theorem upto_toList (s : ByteArray) (n : Nat) : (s.extract 0 n).toList = s.data.toList.take n := by
  rw [ByteArray.toList_eq]; simp
theorem has_prefix (s : ByteArray) (z : List UInt8) : strings_HasPrefix.f s ⟨z.toArray⟩ = some (z.isPrefixOf s.data.toList) := by
  have hz : (⟨z.toArray⟩ : ByteArray).size = z.length := rfl
  have hs : s.data.toList.length = s.size := rfl
  unfold strings_HasPrefix.f stringslite_HasPrefix.f
  rw [hz]
  by_cases h : (z.length : Int) ≤ (s.size : Int)
  · rw [if_pos (show (s.size : Int) ≥ (z.length : Int) from h), if_pos (by omega), if_pos h, Option.bind_some, Int.toNat_natCast, upto_toList, mkb_toList]
    congr 1
    rw [Bool.eq_iff_iff, beq_iff_eq, List.isPrefixOf_iff_prefix, List.prefix_iff_eq_take]
    exact ⟨fun e => e.symm, fun e => e.symm⟩
  · rw [if_neg (show ¬ (s.size : Int) ≥ (z.length : Int) from h), Option.bind_some]
    congr 1
    symm
    rw [Bool.eq_false_iff]
    intro hp
    rw [List.isPrefixOf_iff_prefix] at hp
    have := hp.length_le
    omega
set_option maxHeartbeats 1600000 in
set_option maxRecDepth 100000 in
/-- lex.token where no word, number or text begins: the signs. -/
theorem lex_token.signs (a0 : ByteArray) (r1 : Int) (r2 : ByteArray) (r3 r4 r5 : Int) (w : World) (hT : Tabs w) (c2 : 0 < (a0.size : Int)) (A40 : lex_letter.f (bt a0 0) = some false) (A190 : lex_digit.f (bt a0 0) = some false) (c61 : ¬ (bt a0 0) = 34) (c70 : ¬ (bt a0 0) = 39) (HS0 : signAt a0 = (r1, r2, r3, r4, r5)) :
    Calls Tryd.prog 13 #[.string a0] w fun e w' => e = .returned (.tuple #[.agg #[.int .i64 r1, .string r2, .int .i64 r3, .int .i64 r4], .int .i64 r5]) ∧ Below w.heap.size w w' := by
  have HT := Aside0.mk hT
  have HS := Aside0.mk HS0
  have A4 := Aside0.mk A40
  have A19 := Aside0.mk A190
  clear hT HS0 A40 A190
  have hu32 := Tryd.underlying32
  have hu46 := Tryd.underlying46
  have HB := Aside0.mk (Below.refl w.heap.size w)
  have c2b0 : decide (0 < (a0.size : Int)) = true := decide_eq_true c2
  have c2b1 : decide (0 < a0.size) = true := decide_eq_true (by omega)
  clear c2
  have c61b0 : ((bt a0 0) == 34) = false := beq_eq_false_iff_ne.mpr c61
  have c61b1 : ((bt a0 0) != 34) = true := bne_iff_ne.mpr c61
  have c70b0 : ((bt a0 0) == 39) = false := beq_eq_false_iff_ne.mpr c70
  have c70b1 : ((bt a0 0) != 39) = true := bne_iff_ne.mpr c70
  go_enter Tryd.func13, Tryd.ntmps13
  go_wp2_with (first | ((with_reducible refine gate_dst (N := 107) rfl ?_); refine load_signs rfl rfl (Tabs.below HT.out (by repeat (first | (with_reducible first | exact HB.out | apply below_alloc | apply pw_below_drewN | apply below_drew1 | refine below_set ?_ GE135.out) | exact HB.out))) ?_) | ((with_reducible refine gate_dst (N := 2) rfl ?_); refine box_event ?hg (N := 2) ?hd (cs := #[.int .i64 0, .string (⟨#[]⟩ : ByteArray), .int .i64 0, .int .i64 0]) (t := 32) ?hr ?_; (case hd => rfl); (case hg => rfl); (case hr => first | (go_simp; done) | (go_simp; rfl)); intro gb135 hg w85 hbox hb; have n0_ := Aside0.mk (below_step (by repeat (first | (with_reducible first | exact HB.out | apply below_alloc | apply pw_below_drewN | apply below_drew1) | exact HB.out)) hb); have n1_ := Aside0.mk (hbox); have n2_ := Aside0.mk ((by rw [hg]; exact (below_size (by repeat (first | (with_reducible first | exact HB.out | apply below_alloc | apply pw_below_drewN | apply below_drew1) | exact HB.out))) : w.heap.size ≤ gb135)); have n3_ := Aside0.mk ((by rw [hg]; exact (below_size (by repeat (first | (with_reducible first | exact HB.out | apply below_alloc | apply pw_below_drewN | apply below_drew1) | exact HB.out))) : w.heap.size ≤ gb135)); clear HB; have HB := n0_; have BK135 := n1_; have GW135 := n2_; have GE135 := n3_; clear n0_ n1_ n2_ n3_; clear hb hbox hg; have p3 : 0 ≤ (0 : Int) := (by omega); have q3 : 0 < a0.size := (by have : (0 : Int) < (a0.size : Int) := of_decide_eq_true (by first | (with_reducible assumption) | assumption); omega); have hx3 : ∀ h : 0 < a0.size, ((a0[0]'h).toNat : Int) = bt a0 0 := bt_at a0 0; clear p3; have qi3 : (0 < (a0.size : Int)) = True := eq_true (of_decide_eq_true (by first | (with_reducible assumption) | assumption)); replace q3 := eq_true q3) | ((with_reducible refine gate_callee (f := 20) rfl ?_); refine goesL_ (some 19) rfl rfl Tryd.func20 (by kernel_rfl) rfl #[.int .u8 (bt a0 0)] rfl (by (try simp only [List.map_toArray, List.map_cons, List.map_nil]); first | done | rfl | (simp only [List.length_drop, List.length_take]; rfl)) ?_; (with_reducible refine (lex_letter.calls (bt a0 0) false _ A4.out).mono ?_); rintro e w' ⟨rfl, ⟨nd, rfl⟩⟩; refine ⟨_, rfl, ?_⟩; (try (rw [drewN_self w85]; generalize hq_ : World.drewN w85 _ = w85; have n0_ : Aside0 (w85.heap[gb135]? = some (.cells #[.int .i64 0, .string (⟨#[]⟩ : ByteArray), .int .i64 0, .int .i64 0] 32 (0, 0))) := ⟨by rw [← hq_]; exact (by (with_reducible repeat (first | refine blk_drewN ?_ _ | refine blk_drew ?_ | refine blk_alloc ?_ _)); exact BK135.out)⟩; have n1_ : Aside0 (Below w.heap.size w w85) := ⟨by rw [← hq_]; exact (by repeat (first | (with_reducible first | exact HB.out | apply below_alloc | apply pw_below_drewN | apply below_drew1 | refine below_set ?_ GE135.out) | exact HB.out))⟩; clear BK135 HB hq_; have BK135 := n0_; have HB := n1_; clear n0_ n1_))) | ((with_reducible refine gate_callee (f := 23) rfl ?_); refine goesL_ (some 35) rfl rfl Tryd.func23 (by kernel_rfl) rfl #[.int .u8 (bt a0 0)] rfl (by (try simp only [List.map_toArray, List.map_cons, List.map_nil]); first | done | rfl | (simp only [List.length_drop, List.length_take]; rfl)) ?_; (with_reducible refine (lex_digit.calls (bt a0 0) false _ A19.out).mono ?_); rintro e w' ⟨rfl, ⟨nd, rfl⟩⟩; refine ⟨_, rfl, ?_⟩; (try (rw [drewN_self w85]; generalize hq_ : World.drewN w85 _ = w85; have n0_ : Aside0 (w85.heap[gb135]? = some (.cells #[.int .i64 0, .string (⟨#[]⟩ : ByteArray), .int .i64 0, .int .i64 0] 32 (0, 0))) := ⟨by rw [← hq_]; exact (by (with_reducible repeat (first | refine blk_drewN ?_ _ | refine blk_drew ?_ | refine blk_alloc ?_ _)); exact BK135.out)⟩; have n1_ : Aside0 (Below w.heap.size w w85) := ⟨by rw [← hq_]; exact (by repeat (first | (with_reducible first | exact HB.out | apply below_alloc | apply pw_below_drewN | apply below_drew1 | refine below_set ?_ GE135.out) | exact HB.out))⟩; clear BK135 HB hq_; have BK135 := n0_; have HB := n1_; clear n0_ n1_)); have hcz86_0 : w85.cell? ⟨gb135, 0, none⟩ = some (.int .i64 0) := (blk_cell BK135.out 0).trans rfl; have hcz86_1 : w85.cell? ⟨gb135, 1, none⟩ = some (.string (⟨#[]⟩ : ByteArray)) := (blk_cell BK135.out 1).trans rfl; have hcz86_2 : w85.cell? ⟨gb135, 2, none⟩ = some (.int .i64 0) := (blk_cell BK135.out 2).trans rfl; have hcz86_3 : w85.cell? ⟨gb135, 3, none⟩ = some (.int .i64 0) := (blk_cell BK135.out 3).trans rfl; have hfz86_0 := blk_frozen BK135.out 0; have hfz86_1 := blk_frozen BK135.out 1; have hfz86_2 := blk_frozen BK135.out 2; have hfz86_3 := blk_frozen BK135.out 3))
  go_loopg [108] 27 (fun kq v108 w' => ∃ i : Nat, v108 = .int .i64 i ∧ Aside0 (kq + i = 27) ∧ Aside0 (signRes ((signL.drop i).find? (fun z => z.isPrefixOf a0.data.toList)) = (r1, r2, r3, r4, r5)) ∧ Aside0 (w'.heap[gb135]? = some (.cells #[.int .i64 0, .string (⟨#[]⟩ : ByteArray), .int .i64 0, .int .i64 0] 32 (0, 0))) ∧ Aside0 (Below w.heap.size w w'))
  case atStart => exact ⟨0, rfl, ⟨rfl⟩, ⟨HS.out⟩, ⟨(by (with_reducible repeat (first | refine blk_drewN ?_ _ | refine blk_drew ?_ | refine blk_alloc ?_ _)); exact BK135.out)⟩, ⟨(by repeat (first | (with_reducible first | exact HB.out | apply below_alloc | apply pw_below_drewN | apply below_drew1 | refine below_set ?_ GE135.out) | exact HB.out))⟩⟩
  case round =>
    clear HS
    obtain ⟨i, rfl, HI, HF, BK135, HB⟩ := hrel
    have hz0 : wr.cell? ⟨gb135, 0, none⟩ = some (.int .i64 0) := (blk_cell BK135.out 0).trans rfl
    have hz1 : wr.cell? ⟨gb135, 1, none⟩ = some (.string (⟨#[]⟩ : ByteArray)) := (blk_cell BK135.out 1).trans rfl
    have hz2 : wr.cell? ⟨gb135, 2, none⟩ = some (.int .i64 0) := (blk_cell BK135.out 2).trans rfl
    have hz3 : wr.cell? ⟨gb135, 3, none⟩ = some (.int .i64 0) := (blk_cell BK135.out 3).trans rfl
    have hfz0 := blk_frozen BK135.out 0
    have hfz1 := blk_frozen BK135.out 1
    have hfz2 := blk_frozen BK135.out 2
    have hfz3 := blk_frozen BK135.out 3
    by_cases hi : i < 27
    · have hl : i < signL.length := hi
      have d0 : decide ((i : Int) < 27) = true := decide_eq_true (by omega)
      have d1 : decide (i < 27) = true := decide_eq_true hi
      have hd := List.drop_eq_getElem_cons hl
      have hB : signB i = ⟨(signL[i]).toArray⟩ := by simp [signB, List.getD, hl]
      have HL := Aside0.mk hi
      have hf := HF.out
      rw [hd, List.find?_cons] at hf
      clear hd HF
      cases hp : (signL[i]).isPrefixOf a0.data.toList with
      | true =>
        have HP := Aside0.mk (show strings_HasPrefix.f a0 (signB i) = some true by rw [hB, has_prefix, hp])
        simp only [hp, signRes, Prod.mk.injEq] at hf
        have HE := Aside0.mk (show r1 = 5 ∧ r2 = signB i ∧ r3 = 0 ∧ r4 = 0 ∧ r5 = ((signB i).size : Int) from ⟨hf.1.symm, by rw [hB]; exact hf.2.1.symm, hf.2.2.1.symm, hf.2.2.2.1.symm, by rw [hB]; exact hf.2.2.2.2.symm⟩)
        clear hf hp hl hB hi d1
        generalize hSB : signB i = sb at HP HE
        have HSB := Aside0.mk hSB
        clear hSB
        go_wp2_with (first | ((with_reducible refine gate_dst (N := 110) rfl ?_); refine index_sign i HL.out rfl rfl rfl rfl ?_; rw [HSB.out]) | ((with_reducible refine gate_callee (f := 19) rfl ?_); refine goesL_ (some 113) rfl rfl Tryd.func19 (by kernel_rfl) rfl #[.string a0, .string sb] rfl (by (try simp only [List.map_toArray, List.map_cons, List.map_nil]); first | done | rfl) ?_; (with_reducible refine (strings_HasPrefix.calls a0 sb true _ HP.out).mono ?_); rintro e w_ ⟨rfl, ⟨nd, rfl⟩⟩; refine ⟨_, rfl, ?_⟩))
        refine bodyPost_ret (results_ct rfl _ _ gb135 32 #[.int .i64 5, .string sb, .int .i64 0, .int .i64 0] (0, 0) _ rfl (by (with_reducible repeat (first | refine blk_drewN ?_ _ | refine blk_drew ?_ | refine blk_alloc ?_ _)); refine blk_put (cs := #[.int .i64 5, .string sb, .int .i64 0, .int .i64 0]) ?_ 3 _ rfl; (with_reducible repeat (first | refine blk_drewN ?_ _ | refine blk_drew ?_ | refine blk_alloc ?_ _)); refine blk_put (cs := #[.int .i64 5, .string sb, .int .i64 0, .int .i64 0]) ?_ 2 _ rfl; (with_reducible repeat (first | refine blk_drewN ?_ _ | refine blk_drew ?_ | refine blk_alloc ?_ _)); refine blk_put (cs := #[.int .i64 5, .string (⟨#[]⟩ : ByteArray), .int .i64 0, .int .i64 0]) ?_ 1 _ rfl; (with_reducible repeat (first | refine blk_drewN ?_ _ | refine blk_drew ?_ | refine blk_alloc ?_ _)); refine blk_put (cs := #[.int .i64 0, .string (⟨#[]⟩ : ByteArray), .int .i64 0, .int .i64 0]) ?_ 0 _ rfl; (with_reducible repeat (first | refine blk_drewN ?_ _ | refine blk_drew ?_ | refine blk_alloc ?_ _)); exact BK135.out) Tryd.underlying32 rfl (by kernel_rfl)) rfl ?_
        exact ⟨by (obtain ⟨e1, e2, e3, e4, e5⟩ := HE.out; rw [e1, e2, e3, e4, e5]; rfl), (by repeat (first | (with_reducible first | exact HB.out | apply below_alloc | apply pw_below_drewN | apply below_drew1 | refine below_set ?_ GE135.out) | exact HB.out))⟩
      | false =>
        have HP := Aside0.mk (show strings_HasPrefix.f a0 (signB i) = some false by rw [hB, has_prefix, hp])
        simp only [hp] at hf
        have HF := Aside0.mk hf
        clear hf hp hl hB hi d1
        generalize hSB : signB i = sb at HP
        have HSB := Aside0.mk hSB
        clear hSB
        go_wp2_with (first | ((with_reducible refine gate_dst (N := 110) rfl ?_); refine index_sign i HL.out rfl rfl rfl rfl ?_; rw [HSB.out]) | ((with_reducible refine gate_callee (f := 19) rfl ?_); refine goesL_ (some 113) rfl rfl Tryd.func19 (by kernel_rfl) rfl #[.string a0, .string sb] rfl (by (try simp only [List.map_toArray, List.map_cons, List.map_nil]); first | done | rfl) ?_; (with_reducible refine (strings_HasPrefix.calls a0 sb false _ HP.out).mono ?_); rintro e w_ ⟨rfl, ⟨nd, rfl⟩⟩; refine ⟨_, rfl, ?_⟩))
        go_roundg (27 - (i + 1))
        case measure => have := HI.out; have := HL.out; omega
        case rel => exact ⟨i + 1, (by have := HL.out; first | rfl | exact congrArg (Value.int .i64) (by unfold wrap64; omega)), ⟨by have := HL.out; omega⟩, HF, ⟨(by (with_reducible repeat (first | refine blk_drewN ?_ _ | refine blk_drew ?_ | refine blk_alloc ?_ _)); exact BK135.out)⟩, ⟨(by repeat (first | (with_reducible first | exact HB.out | apply below_alloc | apply pw_below_drewN | apply below_drew1 | refine below_set ?_ GE135.out) | exact HB.out))⟩⟩
    · have d0 : decide ((i : Int) < 27) = false := decide_eq_false (by omega)
      have hf := HF.out
      have h27 : 27 ≤ i := by omega
      rw [List.drop_eq_nil_of_le (show signL.length ≤ i from h27)] at hf
      simp only [List.find?_nil, signRes, Prod.mk.injEq] at hf
      obtain ⟨rfl, rfl, rfl, rfl, rfl⟩ := hf
      clear hi h27 HF
      go_wp2
      refine bodyPost_ret (results_ct rfl _ _ gb135 32 #[.int .i64 0, .string (⟨#[]⟩ : ByteArray), .int .i64 0, .int .i64 0] (0, 0) _ rfl (by (with_reducible repeat (first | refine blk_drewN ?_ _ | refine blk_drew ?_ | refine blk_alloc ?_ _)); refine blk_put (cs := #[.int .i64 0, .string (⟨#[]⟩ : ByteArray), .int .i64 0, .int .i64 0]) ?_ 3 _ rfl; (with_reducible repeat (first | refine blk_drewN ?_ _ | refine blk_drew ?_ | refine blk_alloc ?_ _)); refine blk_put (cs := #[.int .i64 0, .string (⟨#[]⟩ : ByteArray), .int .i64 0, .int .i64 0]) ?_ 2 _ rfl; (with_reducible repeat (first | refine blk_drewN ?_ _ | refine blk_drew ?_ | refine blk_alloc ?_ _)); refine blk_put (cs := #[.int .i64 0, .string (⟨#[]⟩ : ByteArray), .int .i64 0, .int .i64 0]) ?_ 1 _ rfl; (with_reducible repeat (first | refine blk_drewN ?_ _ | refine blk_drew ?_ | refine blk_alloc ?_ _)); refine blk_put (cs := #[.int .i64 0, .string (⟨#[]⟩ : ByteArray), .int .i64 0, .int .i64 0]) ?_ 0 _ rfl; (with_reducible repeat (first | refine blk_drewN ?_ _ | refine blk_drew ?_ | refine blk_alloc ?_ _)); exact BK135.out) Tryd.underlying32 rfl (by kernel_rfl)) rfl ?_
      exact ⟨by first | rfl | (simp; done), (by repeat (first | (with_reducible first | exact HB.out | apply below_alloc | apply pw_below_drewN | apply below_drew1 | refine below_set ?_ GE135.out) | exact HB.out))⟩
def lex_token.l0 : Nat → ByteArray → Int → Int → Option (Int × ByteArray × Int × Int × Int)
  | 0, _, _, _ => none
  | k + 1, x0, x4, x6 => if x6 < (x0.size : Int) then (if 0 ≤ x6 then ((lex_digit.f (bt x0 x6)).bind fun t140 => (if t140 = true then (lex_token.l0 k x0 x4 (wrap64 (x6 + 1))) else (if x6 ≤ (x0.size : Int) then ((strconv_ParseInt.f (x0.extract 0 (x6 : Int).toNat) 10 64).bind fun bt141 => (if bt141.2.isNone = true then (if x6 > 1 then (if x4 = 48 then (some (0, (⟨#[]⟩ : ByteArray), 0, 0, 0)) else (some (2, x0.extract 0 (x6 : Int).toNat, bt141.1, 0, x6))) else (some (2, x0.extract 0 (x6 : Int).toNat, bt141.1, 0, x6))) else (some (0, (⟨#[]⟩ : ByteArray), 0, 0, 0)))) else (none)))) else (none)) else (if 0 ≤ x6 then (if x6 ≤ (x0.size : Int) then ((strconv_ParseInt.f (x0.extract 0 (x6 : Int).toNat) 10 64).bind fun bt144 => (if bt144.2.isNone = true then (if x6 > 1 then (if x4 = 48 then (some (0, (⟨#[]⟩ : ByteArray), 0, 0, 0)) else (some (2, x0.extract 0 (x6 : Int).toNat, bt144.1, 0, x6))) else (some (2, x0.extract 0 (x6 : Int).toNat, bt144.1, 0, x6))) else (some (0, (⟨#[]⟩ : ByteArray), 0, 0, 0)))) else (none)) else (none))
def lex_token.f (k : Nat) (a0 : ByteArray) : Option (Int × ByteArray × Int × Int × Int) := if 0 < (a0.size : Int) then ((lex_letter.f (bt a0 0)).bind fun t136 => (if t136 = true then ((lex_run.f k a0).bind fun t137 => (if 0 ≤ t137 then (if t137 ≤ (a0.size : Int) then ((value_Name.f (a0.extract 0 (t137 : Int).toNat)).bind fun t138 => (if t138 = true then (some (1, a0.extract 0 (t137 : Int).toNat, 0, 0, t137)) else (some (0, (⟨#[]⟩ : ByteArray), 0, 0, 0)))) else (none)) else (none))) else ((lex_digit.f (bt a0 0)).bind fun t139 => (if t139 = true then (lex_token.l0 k a0 (bt a0 0) 0) else (if (bt a0 0) = 34 then ((lex_text.f k a0).bind fun bt147 => (if bt147.2.2 = true then (some (3, bt147.2.1, 0, 0, bt147.1)) else (some (0, (⟨#[]⟩ : ByteArray), 0, 0, 0)))) else (if (bt a0 0) = 39 then (if 1 ≤ (a0.size : Int) then ((lex_run.f k (a0.extract 1 a0.size)).bind fun t150 => (if 1 ≤ (wrap64 (1 + t150)) then (if (wrap64 (1 + t150)) ≤ (a0.size : Int) then ((value_Name.f (a0.extract 1 ((wrap64 (1 + t150)) : Int).toNat)).bind fun t151 => (if t151 = true then (some (4, a0.extract 1 ((wrap64 (1 + t150)) : Int).toNat, 0, 0, wrap64 (1 + t150))) else (some (0, (⟨#[]⟩ : ByteArray), 0, 0, 0)))) else (none)) else (none))) else (none)) else (some (signAt a0)))))))) else (none)
set_option maxHeartbeats 4000000 in
set_option maxRecDepth 100000 in
theorem lex_token.calls (k : Nat) (a0 : ByteArray) (r1 : Int) (r2 : ByteArray) (r3 : Int) (r4 : Int) (r5 : Int) (w : World) (h : lex_token.f k a0 = some (r1, r2, r3, r4, r5)) (hT : Tabs w) :
    Calls Tryd.prog 13 #[.string a0] w fun e w' => e = .returned (.tuple #[.agg #[.int .i64 r1, .string r2, .int .i64 r3, .int .i64 r4], .int .i64 r5]) ∧ Below w.heap.size w w' := by
  have HT := Aside0.mk hT
  clear hT
  have hu32 := Tryd.underlying32
  have hu46 := Tryd.underlying46
  have HB := Aside0.mk (Below.refl w.heap.size w)
  have H : (if 0 < (a0.size : Int) then ((lex_letter.f (bt a0 0)).bind fun t136 => (if t136 = true then ((lex_run.f k a0).bind fun t137 => (if 0 ≤ t137 then (if t137 ≤ (a0.size : Int) then ((value_Name.f (a0.extract 0 (t137 : Int).toNat)).bind fun t138 => (if t138 = true then (some (1, a0.extract 0 (t137 : Int).toNat, 0, 0, t137)) else (some (0, (⟨#[]⟩ : ByteArray), 0, 0, 0)))) else (none)) else (none))) else ((lex_digit.f (bt a0 0)).bind fun t139 => (if t139 = true then (lex_token.l0 k a0 (bt a0 0) 0) else (if (bt a0 0) = 34 then ((lex_text.f k a0).bind fun bt147 => (if bt147.2.2 = true then (some (3, bt147.2.1, 0, 0, bt147.1)) else (some (0, (⟨#[]⟩ : ByteArray), 0, 0, 0)))) else (if (bt a0 0) = 39 then (if 1 ≤ (a0.size : Int) then ((lex_run.f k (a0.extract 1 a0.size)).bind fun t150 => (if 1 ≤ (wrap64 (1 + t150)) then (if (wrap64 (1 + t150)) ≤ (a0.size : Int) then ((value_Name.f (a0.extract 1 ((wrap64 (1 + t150)) : Int).toNat)).bind fun t151 => (if t151 = true then (some (4, a0.extract 1 ((wrap64 (1 + t150)) : Int).toNat, 0, 0, wrap64 (1 + t150))) else (some (0, (⟨#[]⟩ : ByteArray), 0, 0, 0)))) else (none)) else (none))) else (none)) else (some (signAt a0)))))))) else (none)) = some (r1, r2, r3, r4, r5) := h
  clear h
  by_cases c2 : 0 < (a0.size : Int)
  · rw [if_pos c2] at H
    have c2b0 : decide (0 < (a0.size : Int)) = true := decide_eq_true c2
    have c2b1 : decide (0 < a0.size) = true := decide_eq_true (by omega)
    clear c2
    replace H := Option.bind_eq_some_iff.mp H
    obtain ⟨t136, A40, H⟩ := H
    replace H : (if t136 = true then ((lex_run.f k a0).bind fun t137 => (if 0 ≤ t137 then (if t137 ≤ (a0.size : Int) then ((value_Name.f (a0.extract 0 (t137 : Int).toNat)).bind fun t138 => (if t138 = true then (some (1, a0.extract 0 (t137 : Int).toNat, 0, 0, t137)) else (some (0, (⟨#[]⟩ : ByteArray), 0, 0, 0)))) else (none)) else (none))) else ((lex_digit.f (bt a0 0)).bind fun t139 => (if t139 = true then (lex_token.l0 k a0 (bt a0 0) 0) else (if (bt a0 0) = 34 then ((lex_text.f k a0).bind fun bt147 => (if bt147.2.2 = true then (some (3, bt147.2.1, 0, 0, bt147.1)) else (some (0, (⟨#[]⟩ : ByteArray), 0, 0, 0)))) else (if (bt a0 0) = 39 then (if 1 ≤ (a0.size : Int) then ((lex_run.f k (a0.extract 1 a0.size)).bind fun t150 => (if 1 ≤ (wrap64 (1 + t150)) then (if (wrap64 (1 + t150)) ≤ (a0.size : Int) then ((value_Name.f (a0.extract 1 ((wrap64 (1 + t150)) : Int).toNat)).bind fun t151 => (if t151 = true then (some (4, a0.extract 1 ((wrap64 (1 + t150)) : Int).toNat, 0, 0, wrap64 (1 + t150))) else (some (0, (⟨#[]⟩ : ByteArray), 0, 0, 0)))) else (none)) else (none))) else (none)) else (some (signAt a0))))))) = some (r1, r2, r3, r4, r5) := H
    have A4 := Aside0.mk A40
    clear A40
    by_cases c5 : t136 = true
    · subst c5
      have H1 : ((lex_run.f k a0).bind fun t137 => (if 0 ≤ t137 then (if t137 ≤ (a0.size : Int) then ((value_Name.f (a0.extract 0 (t137 : Int).toNat)).bind fun t138 => (if t138 = true then (some (1, a0.extract 0 (t137 : Int).toNat, 0, 0, t137)) else (some (0, (⟨#[]⟩ : ByteArray), 0, 0, 0)))) else (none)) else (none))) = some (r1, r2, r3, r4, r5) := by rw [if_pos rfl] at H; exact H
      clear H
      have H := H1
      clear H1
      replace H := Option.bind_eq_some_iff.mp H
      obtain ⟨t137, A60, H⟩ := H
      replace H : (if 0 ≤ t137 then (if t137 ≤ (a0.size : Int) then ((value_Name.f (a0.extract 0 (t137 : Int).toNat)).bind fun t138 => (if t138 = true then (some (1, a0.extract 0 (t137 : Int).toNat, 0, 0, t137)) else (some (0, (⟨#[]⟩ : ByteArray), 0, 0, 0)))) else (none)) else (none)) = some (r1, r2, r3, r4, r5) := H
      have A6 := Aside0.mk A60
      clear A60
      by_cases c7 : 0 ≤ t137
      · rw [if_pos c7] at H
        have c7b0 := eq_true c7
        have c7b1 : decide (0 ≤ t137) = true := decide_eq_true c7
        clear c7
        by_cases c8 : t137 ≤ (a0.size : Int)
        · rw [if_pos c8] at H
          have c8b0 := eq_true c8
          have c8b1 : decide (t137 ≤ (a0.size : Int)) = true := decide_eq_true c8
          clear c8
          replace H := Option.bind_eq_some_iff.mp H
          obtain ⟨t138, A90, H⟩ := H
          replace H : (if t138 = true then (some (1, a0.extract 0 (t137 : Int).toNat, 0, 0, t137)) else (some (0, (⟨#[]⟩ : ByteArray), 0, 0, 0))) = some (r1, r2, r3, r4, r5) := H
          have A9 := Aside0.mk A90
          clear A90
          by_cases c10 : t138 = true
          · subst c10
            have H1 : (some (1, a0.extract 0 (t137 : Int).toNat, 0, 0, t137)) = some (r1, r2, r3, r4, r5) := by rw [if_pos rfl] at H; exact H
            clear H
            have H := H1
            clear H1
            have c11b0 := eq_true (of_decide_eq_true (by first | (with_reducible assumption) | assumption) : 0 ≤ t137)
            have c12b0 := eq_true (of_decide_eq_true (by first | (with_reducible assumption) | assumption) : t137 ≤ (a0.size : Int))
            simp only [Option.some.injEq, Prod.mk.injEq] at H
            obtain ⟨rfl, rfl, rfl, rfl, rfl⟩ := H
            go_enter Tryd.func13, Tryd.ntmps13
            go_wp2_with (first | ((with_reducible refine gate_dst (N := 2) rfl ?_); refine box_event ?hg (N := 2) ?hd (cs := #[.int .i64 0, .string (⟨#[]⟩ : ByteArray), .int .i64 0, .int .i64 0]) (t := 32) ?hr ?_; (case hd => rfl); (case hg => rfl); (case hr => first | (go_simp; done) | (go_simp; rfl)); intro gb135 hg w13 hbox hb; have n0_ := Aside0.mk (below_step (by repeat (first | (with_reducible first | exact HB.out | apply below_alloc | apply pw_below_drewN | apply below_drew1) | exact HB.out)) hb); have n1_ := Aside0.mk (hbox); have n2_ := Aside0.mk ((by rw [hg]; exact (below_size (by repeat (first | (with_reducible first | exact HB.out | apply below_alloc | apply pw_below_drewN | apply below_drew1) | exact HB.out))) : w.heap.size ≤ gb135)); have n3_ := Aside0.mk ((by rw [hg]; exact (below_size (by repeat (first | (with_reducible first | exact HB.out | apply below_alloc | apply pw_below_drewN | apply below_drew1) | exact HB.out))) : w.heap.size ≤ gb135)); clear HB; have HB := n0_; have BK135 := n1_; have GW135 := n2_; have GE135 := n3_; clear n0_ n1_ n2_ n3_; clear hb hbox hg; have p3 : 0 ≤ (0 : Int) := (by omega); have q3 : 0 < a0.size := (by have : (0 : Int) < (a0.size : Int) := of_decide_eq_true (by first | (with_reducible assumption) | assumption); omega); have hx3 : ∀ h : 0 < a0.size, ((a0[0]'h).toNat : Int) = bt a0 0 := bt_at a0 0; clear p3; have qi3 : (0 < (a0.size : Int)) = True := eq_true (of_decide_eq_true (by first | (with_reducible assumption) | assumption)); replace q3 := eq_true q3) | ((with_reducible refine gate_callee (f := 20) rfl ?_); refine goesL_ (some 19) rfl rfl Tryd.func20 (by kernel_rfl) rfl #[.int .u8 (bt a0 0)] rfl (by (try simp only [List.map_toArray, List.map_cons, List.map_nil]); first | done | rfl | (simp only [List.length_drop, List.length_take]; rfl)) ?_; (with_reducible refine (lex_letter.calls (bt a0 0) true _ A4.out).mono ?_); rintro e w' ⟨rfl, ⟨nd, rfl⟩⟩; refine ⟨_, rfl, ?_⟩; (try (rw [drewN_self w13]; generalize hq_ : World.drewN w13 _ = w13; have n0_ : Aside0 (w13.heap[gb135]? = some (.cells #[.int .i64 0, .string (⟨#[]⟩ : ByteArray), .int .i64 0, .int .i64 0] 32 (0, 0))) := ⟨by rw [← hq_]; exact (by (with_reducible repeat (first | refine blk_drewN ?_ _ | refine blk_drew ?_ | refine blk_alloc ?_ _)); exact BK135.out)⟩; have n1_ : Aside0 (Below w.heap.size w w13) := ⟨by rw [← hq_]; exact (by repeat (first | (with_reducible first | exact HB.out | apply below_alloc | apply pw_below_drewN | apply below_drew1 | refine below_set ?_ GE135.out) | exact HB.out))⟩; clear BK135 HB hq_; have BK135 := n0_; have HB := n1_; clear n0_ n1_))) | ((with_reducible refine gate_callee (f := 21) rfl ?_); refine goesL_ (some 21) rfl rfl Tryd.func21 (by kernel_rfl) rfl #[.string a0] rfl (by (try simp only [List.map_toArray, List.map_cons, List.map_nil]); first | done | rfl | (simp only [List.length_drop, List.length_take]; rfl)) ?_; (with_reducible refine (lex_run.calls k a0 t137 _ A6.out).mono ?_); rintro e w' ⟨rfl, ⟨nd, rfl⟩⟩; refine ⟨_, rfl, ?_⟩; (try (rw [drewN_self w13]; generalize hq_ : World.drewN w13 _ = w13; have n0_ : Aside0 (w13.heap[gb135]? = some (.cells #[.int .i64 0, .string (⟨#[]⟩ : ByteArray), .int .i64 0, .int .i64 0] 32 (0, 0))) := ⟨by rw [← hq_]; exact (by (with_reducible repeat (first | refine blk_drewN ?_ _ | refine blk_drew ?_ | refine blk_alloc ?_ _)); exact BK135.out)⟩; have n1_ : Aside0 (Below w.heap.size w w13) := ⟨by rw [← hq_]; exact (by repeat (first | (with_reducible first | exact HB.out | apply below_alloc | apply pw_below_drewN | apply below_drew1 | refine below_set ?_ GE135.out) | exact HB.out))⟩; clear BK135 HB hq_; have BK135 := n0_; have HB := n1_; clear n0_ n1_))) | ((with_reducible refine gate_callee (f := 22) rfl ?_); refine goesL_ (some 25) rfl rfl Tryd.func22 (by kernel_rfl) rfl #[.string (a0.extract 0 (t137 : Int).toNat)] rfl (by (try simp only [List.map_toArray, List.map_cons, List.map_nil]); first | done | rfl | (simp only [List.length_drop, List.length_take]; rfl)) ?_; (with_reducible refine (value_Name.calls (a0.extract 0 (t137 : Int).toNat) true _ A9.out).mono ?_); rintro e w14 ⟨rfl, hb⟩; refine ⟨_, rfl, ?_⟩; have n0_ := Aside0.mk (blk_below (g := gb135) (o := .cells #[.int .i64 0, .string (⟨#[]⟩ : ByteArray), .int .i64 0, .int .i64 0] 32 (0, 0)) (by (with_reducible repeat (first | refine blk_drewN ?_ _ | refine blk_drew ?_ | refine blk_alloc ?_ _)); exact BK135.out) hb); have n1_ := Aside0.mk (below_step (by repeat (first | (with_reducible first | exact HB.out | apply below_alloc | apply pw_below_drewN | apply below_drew1 | refine below_set ?_ GE135.out) | exact HB.out)) hb); clear BK135; clear HB; have BK135 := n0_; have HB := n1_; clear n0_ n1_; (try clear hb); (try clear hb2); (try clear hk); (try clear hi); have hcz15_0 : w14.cell? ⟨gb135, 0, none⟩ = some (.int .i64 0) := (blk_cell BK135.out 0).trans rfl; have hcz15_1 : w14.cell? ⟨gb135, 1, none⟩ = some (.string (⟨#[]⟩ : ByteArray)) := (blk_cell BK135.out 1).trans rfl; have hcz15_2 : w14.cell? ⟨gb135, 2, none⟩ = some (.int .i64 0) := (blk_cell BK135.out 2).trans rfl; have hcz15_3 : w14.cell? ⟨gb135, 3, none⟩ = some (.int .i64 0) := (blk_cell BK135.out 3).trans rfl; have hfz15_0 := blk_frozen BK135.out 0; have hfz15_1 := blk_frozen BK135.out 1; have hfz15_2 := blk_frozen BK135.out 2; have hfz15_3 := blk_frozen BK135.out 3))
            refine bodyPost_ret (results_ct rfl _ _ gb135 32 #[.int .i64 1, .string (a0.extract 0 (t137 : Int).toNat), .int .i64 0, .int .i64 0] (0, 0) _ rfl (by (with_reducible repeat (first | refine blk_drewN ?_ _ | refine blk_drew ?_ | refine blk_alloc ?_ _)); refine blk_put (cs := #[.int .i64 1, .string (a0.extract 0 (t137 : Int).toNat), .int .i64 0, .int .i64 0]) ?_ 3 _ rfl; (with_reducible repeat (first | refine blk_drewN ?_ _ | refine blk_drew ?_ | refine blk_alloc ?_ _)); refine blk_put (cs := #[.int .i64 1, .string (a0.extract 0 (t137 : Int).toNat), .int .i64 0, .int .i64 0]) ?_ 2 _ rfl; (with_reducible repeat (first | refine blk_drewN ?_ _ | refine blk_drew ?_ | refine blk_alloc ?_ _)); refine blk_put (cs := #[.int .i64 1, .string (⟨#[]⟩ : ByteArray), .int .i64 0, .int .i64 0]) ?_ 1 _ rfl; (with_reducible repeat (first | refine blk_drewN ?_ _ | refine blk_drew ?_ | refine blk_alloc ?_ _)); refine blk_put (cs := #[.int .i64 0, .string (⟨#[]⟩ : ByteArray), .int .i64 0, .int .i64 0]) ?_ 0 _ rfl; (with_reducible repeat (first | refine blk_drewN ?_ _ | refine blk_drew ?_ | refine blk_alloc ?_ _)); exact BK135.out) Tryd.underlying32 rfl (by kernel_rfl)) rfl ?_
            exact ⟨by first | rfl | (simp [errW_none, errW_some] <;> rfl) | (simp [*, errW_none, errW_some] <;> rfl), by repeat (first | (with_reducible first | exact HB.out | apply below_alloc | apply pw_below_drewN | apply below_drew1 | refine below_set ?_ GE135.out) | exact HB.out)⟩
          · replace c10 := Bool.eq_false_iff.mpr c10
            subst c10
            have H1 : (some (0, (⟨#[]⟩ : ByteArray), 0, 0, 0)) = some (r1, r2, r3, r4, r5) := by rw [if_neg (show ¬ (false = true) by decide)] at H; exact H
            clear H
            have H := H1
            clear H1
            simp only [Option.some.injEq, Prod.mk.injEq] at H
            obtain ⟨rfl, rfl, rfl, rfl, rfl⟩ := H
            go_enter Tryd.func13, Tryd.ntmps13
            go_wp2_with (first | ((with_reducible refine gate_dst (N := 2) rfl ?_); refine box_event ?hg (N := 2) ?hd (cs := #[.int .i64 0, .string (⟨#[]⟩ : ByteArray), .int .i64 0, .int .i64 0]) (t := 32) ?hr ?_; (case hd => rfl); (case hg => rfl); (case hr => first | (go_simp; done) | (go_simp; rfl)); intro gb135 hg w16 hbox hb; have n0_ := Aside0.mk (below_step (by repeat (first | (with_reducible first | exact HB.out | apply below_alloc | apply pw_below_drewN | apply below_drew1) | exact HB.out)) hb); have n1_ := Aside0.mk (hbox); have n2_ := Aside0.mk ((by rw [hg]; exact (below_size (by repeat (first | (with_reducible first | exact HB.out | apply below_alloc | apply pw_below_drewN | apply below_drew1) | exact HB.out))) : w.heap.size ≤ gb135)); have n3_ := Aside0.mk ((by rw [hg]; exact (below_size (by repeat (first | (with_reducible first | exact HB.out | apply below_alloc | apply pw_below_drewN | apply below_drew1) | exact HB.out))) : w.heap.size ≤ gb135)); clear HB; have HB := n0_; have BK135 := n1_; have GW135 := n2_; have GE135 := n3_; clear n0_ n1_ n2_ n3_; clear hb hbox hg; have p3 : 0 ≤ (0 : Int) := (by omega); have q3 : 0 < a0.size := (by have : (0 : Int) < (a0.size : Int) := of_decide_eq_true (by first | (with_reducible assumption) | assumption); omega); have hx3 : ∀ h : 0 < a0.size, ((a0[0]'h).toNat : Int) = bt a0 0 := bt_at a0 0; clear p3; have qi3 : (0 < (a0.size : Int)) = True := eq_true (of_decide_eq_true (by first | (with_reducible assumption) | assumption)); replace q3 := eq_true q3) | ((with_reducible refine gate_callee (f := 20) rfl ?_); refine goesL_ (some 19) rfl rfl Tryd.func20 (by kernel_rfl) rfl #[.int .u8 (bt a0 0)] rfl (by (try simp only [List.map_toArray, List.map_cons, List.map_nil]); first | done | rfl | (simp only [List.length_drop, List.length_take]; rfl)) ?_; (with_reducible refine (lex_letter.calls (bt a0 0) true _ A4.out).mono ?_); rintro e w' ⟨rfl, ⟨nd, rfl⟩⟩; refine ⟨_, rfl, ?_⟩; (try (rw [drewN_self w16]; generalize hq_ : World.drewN w16 _ = w16; have n0_ : Aside0 (w16.heap[gb135]? = some (.cells #[.int .i64 0, .string (⟨#[]⟩ : ByteArray), .int .i64 0, .int .i64 0] 32 (0, 0))) := ⟨by rw [← hq_]; exact (by (with_reducible repeat (first | refine blk_drewN ?_ _ | refine blk_drew ?_ | refine blk_alloc ?_ _)); exact BK135.out)⟩; have n1_ : Aside0 (Below w.heap.size w w16) := ⟨by rw [← hq_]; exact (by repeat (first | (with_reducible first | exact HB.out | apply below_alloc | apply pw_below_drewN | apply below_drew1 | refine below_set ?_ GE135.out) | exact HB.out))⟩; clear BK135 HB hq_; have BK135 := n0_; have HB := n1_; clear n0_ n1_))) | ((with_reducible refine gate_callee (f := 21) rfl ?_); refine goesL_ (some 21) rfl rfl Tryd.func21 (by kernel_rfl) rfl #[.string a0] rfl (by (try simp only [List.map_toArray, List.map_cons, List.map_nil]); first | done | rfl | (simp only [List.length_drop, List.length_take]; rfl)) ?_; (with_reducible refine (lex_run.calls k a0 t137 _ A6.out).mono ?_); rintro e w' ⟨rfl, ⟨nd, rfl⟩⟩; refine ⟨_, rfl, ?_⟩; (try (rw [drewN_self w16]; generalize hq_ : World.drewN w16 _ = w16; have n0_ : Aside0 (w16.heap[gb135]? = some (.cells #[.int .i64 0, .string (⟨#[]⟩ : ByteArray), .int .i64 0, .int .i64 0] 32 (0, 0))) := ⟨by rw [← hq_]; exact (by (with_reducible repeat (first | refine blk_drewN ?_ _ | refine blk_drew ?_ | refine blk_alloc ?_ _)); exact BK135.out)⟩; have n1_ : Aside0 (Below w.heap.size w w16) := ⟨by rw [← hq_]; exact (by repeat (first | (with_reducible first | exact HB.out | apply below_alloc | apply pw_below_drewN | apply below_drew1 | refine below_set ?_ GE135.out) | exact HB.out))⟩; clear BK135 HB hq_; have BK135 := n0_; have HB := n1_; clear n0_ n1_))) | ((with_reducible refine gate_callee (f := 22) rfl ?_); refine goesL_ (some 25) rfl rfl Tryd.func22 (by kernel_rfl) rfl #[.string (a0.extract 0 (t137 : Int).toNat)] rfl (by (try simp only [List.map_toArray, List.map_cons, List.map_nil]); first | done | rfl | (simp only [List.length_drop, List.length_take]; rfl)) ?_; (with_reducible refine (value_Name.calls (a0.extract 0 (t137 : Int).toNat) false _ A9.out).mono ?_); rintro e w17 ⟨rfl, hb⟩; refine ⟨_, rfl, ?_⟩; have n0_ := Aside0.mk (blk_below (g := gb135) (o := .cells #[.int .i64 0, .string (⟨#[]⟩ : ByteArray), .int .i64 0, .int .i64 0] 32 (0, 0)) (by (with_reducible repeat (first | refine blk_drewN ?_ _ | refine blk_drew ?_ | refine blk_alloc ?_ _)); exact BK135.out) hb); have n1_ := Aside0.mk (below_step (by repeat (first | (with_reducible first | exact HB.out | apply below_alloc | apply pw_below_drewN | apply below_drew1 | refine below_set ?_ GE135.out) | exact HB.out)) hb); clear BK135; clear HB; have BK135 := n0_; have HB := n1_; clear n0_ n1_; (try clear hb); (try clear hb2); (try clear hk); (try clear hi); have hcz18_0 : w17.cell? ⟨gb135, 0, none⟩ = some (.int .i64 0) := (blk_cell BK135.out 0).trans rfl; have hcz18_1 : w17.cell? ⟨gb135, 1, none⟩ = some (.string (⟨#[]⟩ : ByteArray)) := (blk_cell BK135.out 1).trans rfl; have hcz18_2 : w17.cell? ⟨gb135, 2, none⟩ = some (.int .i64 0) := (blk_cell BK135.out 2).trans rfl; have hcz18_3 : w17.cell? ⟨gb135, 3, none⟩ = some (.int .i64 0) := (blk_cell BK135.out 3).trans rfl; have hfz18_0 := blk_frozen BK135.out 0; have hfz18_1 := blk_frozen BK135.out 1; have hfz18_2 := blk_frozen BK135.out 2; have hfz18_3 := blk_frozen BK135.out 3))
            refine bodyPost_ret (results_ct rfl _ _ gb135 32 #[.int .i64 0, .string (⟨#[]⟩ : ByteArray), .int .i64 0, .int .i64 0] (0, 0) _ rfl (by (with_reducible repeat (first | refine blk_drewN ?_ _ | refine blk_drew ?_ | refine blk_alloc ?_ _)); refine blk_put (cs := #[.int .i64 0, .string (⟨#[]⟩ : ByteArray), .int .i64 0, .int .i64 0]) ?_ 3 _ rfl; (with_reducible repeat (first | refine blk_drewN ?_ _ | refine blk_drew ?_ | refine blk_alloc ?_ _)); refine blk_put (cs := #[.int .i64 0, .string (⟨#[]⟩ : ByteArray), .int .i64 0, .int .i64 0]) ?_ 2 _ rfl; (with_reducible repeat (first | refine blk_drewN ?_ _ | refine blk_drew ?_ | refine blk_alloc ?_ _)); refine blk_put (cs := #[.int .i64 0, .string (⟨#[]⟩ : ByteArray), .int .i64 0, .int .i64 0]) ?_ 1 _ rfl; (with_reducible repeat (first | refine blk_drewN ?_ _ | refine blk_drew ?_ | refine blk_alloc ?_ _)); refine blk_put (cs := #[.int .i64 0, .string (⟨#[]⟩ : ByteArray), .int .i64 0, .int .i64 0]) ?_ 0 _ rfl; (with_reducible repeat (first | refine blk_drewN ?_ _ | refine blk_drew ?_ | refine blk_alloc ?_ _)); exact BK135.out) Tryd.underlying32 rfl (by kernel_rfl)) rfl ?_
            exact ⟨by first | rfl | (simp [errW_none, errW_some] <;> rfl) | (simp [*, errW_none, errW_some] <;> rfl), by repeat (first | (with_reducible first | exact HB.out | apply below_alloc | apply pw_below_drewN | apply below_drew1 | refine below_set ?_ GE135.out) | exact HB.out)⟩
        · rw [if_neg c8] at H
          exact absurd H (by simp)
      · rw [if_neg c7] at H
        exact absurd H (by simp)
    · replace c5 := Bool.eq_false_iff.mpr c5
      subst c5
      have H1 : ((lex_digit.f (bt a0 0)).bind fun t139 => (if t139 = true then (lex_token.l0 k a0 (bt a0 0) 0) else (if (bt a0 0) = 34 then ((lex_text.f k a0).bind fun bt147 => (if bt147.2.2 = true then (some (3, bt147.2.1, 0, 0, bt147.1)) else (some (0, (⟨#[]⟩ : ByteArray), 0, 0, 0)))) else (if (bt a0 0) = 39 then (if 1 ≤ (a0.size : Int) then ((lex_run.f k (a0.extract 1 a0.size)).bind fun t150 => (if 1 ≤ (wrap64 (1 + t150)) then (if (wrap64 (1 + t150)) ≤ (a0.size : Int) then ((value_Name.f (a0.extract 1 ((wrap64 (1 + t150)) : Int).toNat)).bind fun t151 => (if t151 = true then (some (4, a0.extract 1 ((wrap64 (1 + t150)) : Int).toNat, 0, 0, wrap64 (1 + t150))) else (some (0, (⟨#[]⟩ : ByteArray), 0, 0, 0)))) else (none)) else (none))) else (none)) else (some (signAt a0)))))) = some (r1, r2, r3, r4, r5) := by rw [if_neg (show ¬ (false = true) by decide)] at H; exact H
      clear H
      have H := H1
      clear H1
      replace H := Option.bind_eq_some_iff.mp H
      obtain ⟨t139, A190, H⟩ := H
      replace H : (if t139 = true then (lex_token.l0 k a0 (bt a0 0) 0) else (if (bt a0 0) = 34 then ((lex_text.f k a0).bind fun bt147 => (if bt147.2.2 = true then (some (3, bt147.2.1, 0, 0, bt147.1)) else (some (0, (⟨#[]⟩ : ByteArray), 0, 0, 0)))) else (if (bt a0 0) = 39 then (if 1 ≤ (a0.size : Int) then ((lex_run.f k (a0.extract 1 a0.size)).bind fun t150 => (if 1 ≤ (wrap64 (1 + t150)) then (if (wrap64 (1 + t150)) ≤ (a0.size : Int) then ((value_Name.f (a0.extract 1 ((wrap64 (1 + t150)) : Int).toNat)).bind fun t151 => (if t151 = true then (some (4, a0.extract 1 ((wrap64 (1 + t150)) : Int).toNat, 0, 0, wrap64 (1 + t150))) else (some (0, (⟨#[]⟩ : ByteArray), 0, 0, 0)))) else (none)) else (none))) else (none)) else (some (signAt a0))))) = some (r1, r2, r3, r4, r5) := H
      have A19 := Aside0.mk A190
      clear A190
      by_cases c20 : t139 = true
      · subst c20
        have H1 : (lex_token.l0 k a0 (bt a0 0) 0) = some (r1, r2, r3, r4, r5) := by rw [if_pos rfl] at H; exact H
        clear H
        have H := H1
        clear H1
        have H' := Aside0.mk H
        clear H
        go_enter Tryd.func13, Tryd.ntmps13
        go_wp2_with (first | ((with_reducible refine gate_dst (N := 2) rfl ?_); refine box_event ?hg (N := 2) ?hd (cs := #[.int .i64 0, .string (⟨#[]⟩ : ByteArray), .int .i64 0, .int .i64 0]) (t := 32) ?hr ?_; (case hd => rfl); (case hg => rfl); (case hr => first | (go_simp; done) | (go_simp; rfl)); intro gb135 hg w21 hbox hb; have n0_ := Aside0.mk (below_step (by repeat (first | (with_reducible first | exact HB.out | apply below_alloc | apply pw_below_drewN | apply below_drew1) | exact HB.out)) hb); have n1_ := Aside0.mk (hbox); have n2_ := Aside0.mk ((by rw [hg]; exact (below_size (by repeat (first | (with_reducible first | exact HB.out | apply below_alloc | apply pw_below_drewN | apply below_drew1) | exact HB.out))) : w.heap.size ≤ gb135)); have n3_ := Aside0.mk ((by rw [hg]; exact (below_size (by repeat (first | (with_reducible first | exact HB.out | apply below_alloc | apply pw_below_drewN | apply below_drew1) | exact HB.out))) : w.heap.size ≤ gb135)); clear HB; have HB := n0_; have BK135 := n1_; have GW135 := n2_; have GE135 := n3_; clear n0_ n1_ n2_ n3_; clear hb hbox hg; have p3 : 0 ≤ (0 : Int) := (by omega); have q3 : 0 < a0.size := (by have : (0 : Int) < (a0.size : Int) := of_decide_eq_true (by first | (with_reducible assumption) | assumption); omega); have hx3 : ∀ h : 0 < a0.size, ((a0[0]'h).toNat : Int) = bt a0 0 := bt_at a0 0; clear p3; have qi3 : (0 < (a0.size : Int)) = True := eq_true (of_decide_eq_true (by first | (with_reducible assumption) | assumption)); replace q3 := eq_true q3) | ((with_reducible refine gate_callee (f := 20) rfl ?_); refine goesL_ (some 19) rfl rfl Tryd.func20 (by kernel_rfl) rfl #[.int .u8 (bt a0 0)] rfl (by (try simp only [List.map_toArray, List.map_cons, List.map_nil]); first | done | rfl | (simp only [List.length_drop, List.length_take]; rfl)) ?_; (with_reducible refine (lex_letter.calls (bt a0 0) false _ A4.out).mono ?_); rintro e w' ⟨rfl, ⟨nd, rfl⟩⟩; refine ⟨_, rfl, ?_⟩) | ((with_reducible refine gate_callee (f := 23) rfl ?_); refine goesL_ (some 35) rfl rfl Tryd.func23 (by kernel_rfl) rfl #[.int .u8 (bt a0 0)] rfl (by (try simp only [List.map_toArray, List.map_cons, List.map_nil]); first | done | rfl | (simp only [List.length_drop, List.length_take]; rfl)) ?_; (with_reducible refine (lex_digit.calls (bt a0 0) true _ A19.out).mono ?_); rintro e w' ⟨rfl, ⟨nd, rfl⟩⟩; refine ⟨_, rfl, ?_⟩))
        go_loopg [6] k (fun kq v6 w' => ∃ (x6_1 : Int), v6 = .int .i64 x6_1 ∧ Aside0 (lex_token.l0 kq a0 (bt a0 0) x6_1 = some (r1, r2, r3, r4, r5)) ∧ Aside0 (kq ≤ k) ∧ Aside0 (w'.heap[gb135]? = some (.cells #[.int .i64 0, .string (⟨#[]⟩ : ByteArray), .int .i64 0, .int .i64 0] 32 (0, 0))) ∧ Aside0 (Below w.heap.size w w'))
        case atStart => exact ⟨(0), (by first | rfl | (simp; done) | (simp [*]; done)), H', ⟨Nat.le_refl _⟩, ⟨by (with_reducible repeat (first | refine blk_drewN ?_ _ | refine blk_drew ?_ | refine blk_alloc ?_ _)); exact BK135.out⟩, ⟨by repeat (first | (with_reducible first | exact HB.out | apply below_alloc | apply pw_below_drewN | apply below_drew1 | refine below_set ?_ GE135.out) | exact HB.out)⟩⟩
        case round =>
          clear H'
          try clear c1
          try clear c2
          try clear c2b0
          try clear c2b1
          try clear p2
          try clear p3
          try clear q3
          try clear hx3
          try clear qi3
          try clear c5
          try clear p6
          try clear c7
          try clear c7b0
          try clear c7b1
          try clear c8
          try clear c8b0
          try clear c8b1
          try clear c10
          try clear c11
          try clear c11b0
          try clear c12
          try clear c12b0
          try clear c13
          try clear c20
          try clear c21
          try clear hcz15_0
          try clear hcz15_1
          try clear hcz15_2
          try clear hcz15_3
          try clear hcz18_0
          try clear hcz18_1
          try clear hcz18_2
          try clear hcz18_3
          try clear hfz15_0
          try clear hfz15_1
          try clear hfz15_2
          try clear hfz15_3
          try clear hfz18_0
          try clear hfz18_1
          try clear hfz18_2
          try clear hfz18_3
          try clear p3
          try clear q3
          obtain ⟨x6_1, rfl, HA, HK1, BK135, HB⟩ := hrel
          cases gk with
          | zero => exact absurd HA.out (by simp [lex_token.l0])
          | succ k1 =>
            have H := HA.out
            clear HA
            simp only [lex_token.l0] at H
            by_cases c22 : x6_1 < (a0.size : Int)
            · rw [if_pos c22] at H
              have c22b0 : decide (x6_1 < (a0.size : Int)) = true := decide_eq_true c22
              clear c22
              by_cases c23 : 0 ≤ x6_1
              · rw [if_pos c23] at H
                have c23b0 : decide (0 ≤ x6_1) = true := decide_eq_true c23
                clear c23
                replace H := Option.bind_eq_some_iff.mp H
                obtain ⟨t140, A250, H⟩ := H
                replace H : (if t140 = true then (lex_token.l0 k1 a0 (bt a0 0) (wrap64 (x6_1 + 1))) else (if x6_1 ≤ (a0.size : Int) then ((strconv_ParseInt.f (a0.extract 0 (x6_1 : Int).toNat) 10 64).bind fun bt141 => (if bt141.2.isNone = true then (if x6_1 > 1 then (if (bt a0 0) = 48 then (some (0, (⟨#[]⟩ : ByteArray), 0, 0, 0)) else (some (2, a0.extract 0 (x6_1 : Int).toNat, bt141.1, 0, x6_1))) else (some (2, a0.extract 0 (x6_1 : Int).toNat, bt141.1, 0, x6_1))) else (some (0, (⟨#[]⟩ : ByteArray), 0, 0, 0)))) else (none))) = some (r1, r2, r3, r4, r5) := H
                have A25 := Aside0.mk A250
                clear A250
                by_cases c26 : t140 = true
                · subst c26
                  have H1 : (lex_token.l0 k1 a0 (bt a0 0) (wrap64 (x6_1 + 1))) = some (r1, r2, r3, r4, r5) := by rw [if_pos rfl] at H; exact H
                  clear H
                  have H := H1
                  clear H1
                  have H' := Aside0.mk H
                  clear H
                  have p24 : 0 ≤ (x6_1 : Int) := of_decide_eq_true (by first | (with_reducible assumption) | assumption)
                  have q24 : x6_1 < (a0.size : Int) := of_decide_eq_true (by first | (with_reducible assumption) | assumption)
                  have hx24 := bt_at a0 x6_1
                  replace p24 := eq_true p24
                  replace q24 := eq_true q24
                  go_wp2_with (first | (go_at_call 23; refine calls_of_args (args' := #[.int .u8 (bt a0 x6_1)]) (by first | rfl) ?_; (with_reducible refine (lex_digit.calls (bt a0 x6_1) true _ A25.out).mono ?_); rintro e w' ⟨rfl, ⟨nd, rfl⟩⟩))
                  go_roundg k1
                  case measure => have := HK1.out; omega
                  case rel => exact ⟨(wrap64 (x6_1 + 1)), (by first | rfl | (simp; done) | (simp [*]; done)), H', ⟨by have := HK1.out; omega⟩, ⟨by (with_reducible repeat (first | refine blk_drewN ?_ _ | refine blk_drew ?_ | refine blk_alloc ?_ _)); exact BK135.out⟩, ⟨by repeat (first | (with_reducible first | exact HB.out | apply below_alloc | apply pw_below_drewN | apply below_drew1 | refine below_set ?_ GE135.out) | exact HB.out)⟩⟩
                · replace c26 := Bool.eq_false_iff.mpr c26
                  subst c26
                  have H1 : (if x6_1 ≤ (a0.size : Int) then ((strconv_ParseInt.f (a0.extract 0 (x6_1 : Int).toNat) 10 64).bind fun bt141 => (if bt141.2.isNone = true then (if x6_1 > 1 then (if (bt a0 0) = 48 then (some (0, (⟨#[]⟩ : ByteArray), 0, 0, 0)) else (some (2, a0.extract 0 (x6_1 : Int).toNat, bt141.1, 0, x6_1))) else (some (2, a0.extract 0 (x6_1 : Int).toNat, bt141.1, 0, x6_1))) else (some (0, (⟨#[]⟩ : ByteArray), 0, 0, 0)))) else (none)) = some (r1, r2, r3, r4, r5) := by rw [if_neg (show ¬ (false = true) by decide)] at H; exact H
                  clear H
                  have H := H1
                  clear H1
                  have c27b0 := eq_true (of_decide_eq_true (by first | (with_reducible assumption) | assumption) : 0 ≤ x6_1)
                  by_cases c28 : x6_1 ≤ (a0.size : Int)
                  · rw [if_pos c28] at H
                    have c28b0 := eq_true c28
                    have c28b1 : decide (x6_1 ≤ (a0.size : Int)) = true := decide_eq_true c28
                    clear c28
                    replace H := Option.bind_eq_some_iff.mp H
                    obtain ⟨⟨t141, t142⟩, A290, H⟩ := H
                    replace H : (if t142.isNone = true then (if x6_1 > 1 then (if (bt a0 0) = 48 then (some (0, (⟨#[]⟩ : ByteArray), 0, 0, 0)) else (some (2, a0.extract 0 (x6_1 : Int).toNat, t141, 0, x6_1))) else (some (2, a0.extract 0 (x6_1 : Int).toNat, t141, 0, x6_1))) else (some (0, (⟨#[]⟩ : ByteArray), 0, 0, 0))) = some (r1, r2, r3, r4, r5) := H
                    have A29 := Aside0.mk A290
                    clear A290
                    rcases t142 with _ | q143
                    · have H1 : (if x6_1 > 1 then (if (bt a0 0) = 48 then (some (0, (⟨#[]⟩ : ByteArray), 0, 0, 0)) else (some (2, a0.extract 0 (x6_1 : Int).toNat, t141, 0, x6_1))) else (some (2, a0.extract 0 (x6_1 : Int).toNat, t141, 0, x6_1))) = some (r1, r2, r3, r4, r5) := by rw [if_pos (show (none : Option Int).isNone = true by rfl)] at H; exact H
                      clear H
                      have H := H1
                      clear H1
                      try simp only [errW_none, errW_some]
                      by_cases c30 : x6_1 > 1
                      · rw [if_pos c30] at H
                        have c30b0 : decide (1 < x6_1) = true := decide_eq_true c30
                        clear c30
                        by_cases c31 : (bt a0 0) = 48
                        · rw [if_pos c31] at H
                          have c31b0 : ((bt a0 0) == 48) = true := beq_iff_eq.mpr c31
                          have c31b1 : ((bt a0 0) != 48) = false := bne_eq_false_iff_eq.mpr c31
                          clear c31
                          simp only [Option.some.injEq, Prod.mk.injEq] at H
                          obtain ⟨rfl, rfl, rfl, rfl, rfl⟩ := H
                          have p24 : 0 ≤ (x6_1 : Int) := of_decide_eq_true (by first | (with_reducible assumption) | assumption)
                          have q24 : x6_1 < (a0.size : Int) := of_decide_eq_true (by first | (with_reducible assumption) | assumption)
                          have hx24 := bt_at a0 x6_1
                          replace p24 := eq_true p24
                          replace q24 := eq_true q24
                          go_wp2_with (first | (go_at_call 23; refine calls_of_args (args' := #[.int .u8 (bt a0 x6_1)]) (by first | rfl) ?_; (with_reducible refine (lex_digit.calls (bt a0 x6_1) false _ A25.out).mono ?_); rintro e w' ⟨rfl, ⟨nd, rfl⟩⟩; (try (rw [drewN_self wr]; generalize hq_ : World.drewN wr _ = wr; have n0_ : Aside0 (wr.heap[gb135]? = some (.cells #[.int .i64 0, .string (⟨#[]⟩ : ByteArray), .int .i64 0, .int .i64 0] 32 (0, 0))) := ⟨by rw [← hq_]; exact (by (with_reducible repeat (first | refine blk_drewN ?_ _ | refine blk_drew ?_ | refine blk_alloc ?_ _)); exact BK135.out)⟩; have n1_ : Aside0 (Below w.heap.size w wr) := ⟨by rw [← hq_]; exact (by repeat (first | (with_reducible first | exact HB.out | apply below_alloc | apply pw_below_drewN | apply below_drew1 | refine below_set ?_ GE135.out) | exact HB.out))⟩; clear BK135 HB hq_; have BK135 := n0_; have HB := n1_; clear n0_ n1_))) | ((with_reducible refine gate_callee (f := 24) rfl ?_); refine goesL_ (some 52) rfl rfl Tryd.func24 (by kernel_rfl) rfl #[.string (a0.extract 0 (x6_1 : Int).toNat), .int .i64 10, .int .i64 64] rfl (by (try simp only [List.map_toArray, List.map_cons, List.map_nil]); first | done | rfl | (simp only [List.length_drop, List.length_take]; rfl)) ?_; (with_reducible refine (strconv_ParseInt.calls (a0.extract 0 (x6_1 : Int).toNat) 10 64 t141 none _ A29.out (Tabs.below HT.out (by repeat (first | (with_reducible first | exact HB.out | apply below_alloc | apply pw_below_drewN | apply below_drew1 | refine below_set ?_ GE135.out) | exact HB.out)))).mono ?_); rintro e w32 ⟨⟨ev_, hev_, rfl⟩, hb⟩; obtain rfl : ev_ = Value.nilIface := hev_; refine ⟨_, rfl, ?_⟩; have n0_ := Aside0.mk (blk_below (g := gb135) (o := .cells #[.int .i64 0, .string (⟨#[]⟩ : ByteArray), .int .i64 0, .int .i64 0] 32 (0, 0)) (by (with_reducible repeat (first | refine blk_drewN ?_ _ | refine blk_drew ?_ | refine blk_alloc ?_ _)); exact BK135.out) hb); have n1_ := Aside0.mk (below_step (by repeat (first | (with_reducible first | exact HB.out | apply below_alloc | apply pw_below_drewN | apply below_drew1 | refine below_set ?_ GE135.out) | exact HB.out)) hb); clear BK135; clear HB; have BK135 := n0_; have HB := n1_; clear n0_ n1_; (try clear hb); (try clear hb2); (try clear hk); (try clear hi); (try simp only [errW_none, errW_some]); have hcz33_0 : w32.cell? ⟨gb135, 0, none⟩ = some (.int .i64 0) := (blk_cell BK135.out 0).trans rfl; have hcz33_1 : w32.cell? ⟨gb135, 1, none⟩ = some (.string (⟨#[]⟩ : ByteArray)) := (blk_cell BK135.out 1).trans rfl; have hcz33_2 : w32.cell? ⟨gb135, 2, none⟩ = some (.int .i64 0) := (blk_cell BK135.out 2).trans rfl; have hcz33_3 : w32.cell? ⟨gb135, 3, none⟩ = some (.int .i64 0) := (blk_cell BK135.out 3).trans rfl; have hfz33_0 := blk_frozen BK135.out 0; have hfz33_1 := blk_frozen BK135.out 1; have hfz33_2 := blk_frozen BK135.out 2; have hfz33_3 := blk_frozen BK135.out 3))
                          refine bodyPost_ret (results_ct rfl _ _ gb135 32 #[.int .i64 0, .string (⟨#[]⟩ : ByteArray), .int .i64 0, .int .i64 0] (0, 0) _ rfl (by (with_reducible repeat (first | refine blk_drewN ?_ _ | refine blk_drew ?_ | refine blk_alloc ?_ _)); refine blk_put (cs := #[.int .i64 0, .string (⟨#[]⟩ : ByteArray), .int .i64 0, .int .i64 0]) ?_ 3 _ rfl; (with_reducible repeat (first | refine blk_drewN ?_ _ | refine blk_drew ?_ | refine blk_alloc ?_ _)); refine blk_put (cs := #[.int .i64 0, .string (⟨#[]⟩ : ByteArray), .int .i64 0, .int .i64 0]) ?_ 2 _ rfl; (with_reducible repeat (first | refine blk_drewN ?_ _ | refine blk_drew ?_ | refine blk_alloc ?_ _)); refine blk_put (cs := #[.int .i64 0, .string (⟨#[]⟩ : ByteArray), .int .i64 0, .int .i64 0]) ?_ 1 _ rfl; (with_reducible repeat (first | refine blk_drewN ?_ _ | refine blk_drew ?_ | refine blk_alloc ?_ _)); refine blk_put (cs := #[.int .i64 0, .string (⟨#[]⟩ : ByteArray), .int .i64 0, .int .i64 0]) ?_ 0 _ rfl; (with_reducible repeat (first | refine blk_drewN ?_ _ | refine blk_drew ?_ | refine blk_alloc ?_ _)); exact BK135.out) Tryd.underlying32 rfl (by kernel_rfl)) rfl ?_
                          exact ⟨by first | rfl | (simp [errW_none, errW_some] <;> rfl) | (simp [*, errW_none, errW_some] <;> rfl), by repeat (first | (with_reducible first | exact HB.out | apply below_alloc | apply pw_below_drewN | apply below_drew1 | refine below_set ?_ GE135.out) | exact HB.out)⟩
                        · rw [if_neg c31] at H
                          have c31b0 : ((bt a0 0) == 48) = false := beq_eq_false_iff_ne.mpr c31
                          have c31b1 : ((bt a0 0) != 48) = true := bne_iff_ne.mpr c31
                          have c34b0 := eq_true (of_decide_eq_true (by first | (with_reducible assumption) | assumption) : 0 ≤ x6_1)
                          have c35b0 := eq_true (of_decide_eq_true (by first | (with_reducible assumption) | assumption) : x6_1 ≤ (a0.size : Int))
                          simp only [Option.some.injEq, Prod.mk.injEq] at H
                          obtain ⟨rfl, rfl, rfl, rfl, rfl⟩ := H
                          have p24 : 0 ≤ (x6_1 : Int) := of_decide_eq_true (by first | (with_reducible assumption) | assumption)
                          have q24 : x6_1 < (a0.size : Int) := of_decide_eq_true (by first | (with_reducible assumption) | assumption)
                          have hx24 := bt_at a0 x6_1
                          replace p24 := eq_true p24
                          replace q24 := eq_true q24
                          go_wp2_with (first | (go_at_call 23; refine calls_of_args (args' := #[.int .u8 (bt a0 x6_1)]) (by first | rfl) ?_; (with_reducible refine (lex_digit.calls (bt a0 x6_1) false _ A25.out).mono ?_); rintro e w' ⟨rfl, ⟨nd, rfl⟩⟩; (try (rw [drewN_self wr]; generalize hq_ : World.drewN wr _ = wr; have n0_ : Aside0 (wr.heap[gb135]? = some (.cells #[.int .i64 0, .string (⟨#[]⟩ : ByteArray), .int .i64 0, .int .i64 0] 32 (0, 0))) := ⟨by rw [← hq_]; exact (by (with_reducible repeat (first | refine blk_drewN ?_ _ | refine blk_drew ?_ | refine blk_alloc ?_ _)); exact BK135.out)⟩; have n1_ : Aside0 (Below w.heap.size w wr) := ⟨by rw [← hq_]; exact (by repeat (first | (with_reducible first | exact HB.out | apply below_alloc | apply pw_below_drewN | apply below_drew1 | refine below_set ?_ GE135.out) | exact HB.out))⟩; clear BK135 HB hq_; have BK135 := n0_; have HB := n1_; clear n0_ n1_))) | ((with_reducible refine gate_callee (f := 24) rfl ?_); refine goesL_ (some 52) rfl rfl Tryd.func24 (by kernel_rfl) rfl #[.string (a0.extract 0 (x6_1 : Int).toNat), .int .i64 10, .int .i64 64] rfl (by (try simp only [List.map_toArray, List.map_cons, List.map_nil]); first | done | rfl | (simp only [List.length_drop, List.length_take]; rfl)) ?_; (with_reducible refine (strconv_ParseInt.calls (a0.extract 0 (x6_1 : Int).toNat) 10 64 t141 none _ A29.out (Tabs.below HT.out (by repeat (first | (with_reducible first | exact HB.out | apply below_alloc | apply pw_below_drewN | apply below_drew1 | refine below_set ?_ GE135.out) | exact HB.out)))).mono ?_); rintro e w36 ⟨⟨ev_, hev_, rfl⟩, hb⟩; obtain rfl : ev_ = Value.nilIface := hev_; refine ⟨_, rfl, ?_⟩; have n0_ := Aside0.mk (blk_below (g := gb135) (o := .cells #[.int .i64 0, .string (⟨#[]⟩ : ByteArray), .int .i64 0, .int .i64 0] 32 (0, 0)) (by (with_reducible repeat (first | refine blk_drewN ?_ _ | refine blk_drew ?_ | refine blk_alloc ?_ _)); exact BK135.out) hb); have n1_ := Aside0.mk (below_step (by repeat (first | (with_reducible first | exact HB.out | apply below_alloc | apply pw_below_drewN | apply below_drew1 | refine below_set ?_ GE135.out) | exact HB.out)) hb); clear BK135; clear HB; have BK135 := n0_; have HB := n1_; clear n0_ n1_; (try clear hb); (try clear hb2); (try clear hk); (try clear hi); (try simp only [errW_none, errW_some]); have hcz37_0 : w36.cell? ⟨gb135, 0, none⟩ = some (.int .i64 0) := (blk_cell BK135.out 0).trans rfl; have hcz37_1 : w36.cell? ⟨gb135, 1, none⟩ = some (.string (⟨#[]⟩ : ByteArray)) := (blk_cell BK135.out 1).trans rfl; have hcz37_2 : w36.cell? ⟨gb135, 2, none⟩ = some (.int .i64 0) := (blk_cell BK135.out 2).trans rfl; have hcz37_3 : w36.cell? ⟨gb135, 3, none⟩ = some (.int .i64 0) := (blk_cell BK135.out 3).trans rfl; have hfz37_0 := blk_frozen BK135.out 0; have hfz37_1 := blk_frozen BK135.out 1; have hfz37_2 := blk_frozen BK135.out 2; have hfz37_3 := blk_frozen BK135.out 3))
                          refine bodyPost_ret (results_ct rfl _ _ gb135 32 #[.int .i64 2, .string (a0.extract 0 (x6_1 : Int).toNat), .int .i64 t141, .int .i64 0] (0, 0) _ rfl (by (with_reducible repeat (first | refine blk_drewN ?_ _ | refine blk_drew ?_ | refine blk_alloc ?_ _)); refine blk_put (cs := #[.int .i64 2, .string (a0.extract 0 (x6_1 : Int).toNat), .int .i64 t141, .int .i64 0]) ?_ 3 _ rfl; (with_reducible repeat (first | refine blk_drewN ?_ _ | refine blk_drew ?_ | refine blk_alloc ?_ _)); refine blk_put (cs := #[.int .i64 2, .string (a0.extract 0 (x6_1 : Int).toNat), .int .i64 0, .int .i64 0]) ?_ 2 _ rfl; (with_reducible repeat (first | refine blk_drewN ?_ _ | refine blk_drew ?_ | refine blk_alloc ?_ _)); refine blk_put (cs := #[.int .i64 2, .string (⟨#[]⟩ : ByteArray), .int .i64 0, .int .i64 0]) ?_ 1 _ rfl; (with_reducible repeat (first | refine blk_drewN ?_ _ | refine blk_drew ?_ | refine blk_alloc ?_ _)); refine blk_put (cs := #[.int .i64 0, .string (⟨#[]⟩ : ByteArray), .int .i64 0, .int .i64 0]) ?_ 0 _ rfl; (with_reducible repeat (first | refine blk_drewN ?_ _ | refine blk_drew ?_ | refine blk_alloc ?_ _)); exact BK135.out) Tryd.underlying32 rfl (by kernel_rfl)) rfl ?_
                          exact ⟨by first | rfl | (simp [errW_none, errW_some] <;> rfl) | (simp [*, errW_none, errW_some] <;> rfl), by repeat (first | (with_reducible first | exact HB.out | apply below_alloc | apply pw_below_drewN | apply below_drew1 | refine below_set ?_ GE135.out) | exact HB.out)⟩
                      · rw [if_neg c30] at H
                        have c30b0 : decide (1 < x6_1) = false := decide_eq_false c30
                        clear c30
                        have c38b0 := eq_true (of_decide_eq_true (by first | (with_reducible assumption) | assumption) : 0 ≤ x6_1)
                        have c39b0 := eq_true (of_decide_eq_true (by first | (with_reducible assumption) | assumption) : x6_1 ≤ (a0.size : Int))
                        simp only [Option.some.injEq, Prod.mk.injEq] at H
                        obtain ⟨rfl, rfl, rfl, rfl, rfl⟩ := H
                        have p24 : 0 ≤ (x6_1 : Int) := of_decide_eq_true (by first | (with_reducible assumption) | assumption)
                        have q24 : x6_1 < (a0.size : Int) := of_decide_eq_true (by first | (with_reducible assumption) | assumption)
                        have hx24 := bt_at a0 x6_1
                        replace p24 := eq_true p24
                        replace q24 := eq_true q24
                        go_wp2_with (first | (go_at_call 23; refine calls_of_args (args' := #[.int .u8 (bt a0 x6_1)]) (by first | rfl) ?_; (with_reducible refine (lex_digit.calls (bt a0 x6_1) false _ A25.out).mono ?_); rintro e w' ⟨rfl, ⟨nd, rfl⟩⟩; (try (rw [drewN_self wr]; generalize hq_ : World.drewN wr _ = wr; have n0_ : Aside0 (wr.heap[gb135]? = some (.cells #[.int .i64 0, .string (⟨#[]⟩ : ByteArray), .int .i64 0, .int .i64 0] 32 (0, 0))) := ⟨by rw [← hq_]; exact (by (with_reducible repeat (first | refine blk_drewN ?_ _ | refine blk_drew ?_ | refine blk_alloc ?_ _)); exact BK135.out)⟩; have n1_ : Aside0 (Below w.heap.size w wr) := ⟨by rw [← hq_]; exact (by repeat (first | (with_reducible first | exact HB.out | apply below_alloc | apply pw_below_drewN | apply below_drew1 | refine below_set ?_ GE135.out) | exact HB.out))⟩; clear BK135 HB hq_; have BK135 := n0_; have HB := n1_; clear n0_ n1_))) | ((with_reducible refine gate_callee (f := 24) rfl ?_); refine goesL_ (some 52) rfl rfl Tryd.func24 (by kernel_rfl) rfl #[.string (a0.extract 0 (x6_1 : Int).toNat), .int .i64 10, .int .i64 64] rfl (by (try simp only [List.map_toArray, List.map_cons, List.map_nil]); first | done | rfl | (simp only [List.length_drop, List.length_take]; rfl)) ?_; (with_reducible refine (strconv_ParseInt.calls (a0.extract 0 (x6_1 : Int).toNat) 10 64 t141 none _ A29.out (Tabs.below HT.out (by repeat (first | (with_reducible first | exact HB.out | apply below_alloc | apply pw_below_drewN | apply below_drew1 | refine below_set ?_ GE135.out) | exact HB.out)))).mono ?_); rintro e w40 ⟨⟨ev_, hev_, rfl⟩, hb⟩; obtain rfl : ev_ = Value.nilIface := hev_; refine ⟨_, rfl, ?_⟩; have n0_ := Aside0.mk (blk_below (g := gb135) (o := .cells #[.int .i64 0, .string (⟨#[]⟩ : ByteArray), .int .i64 0, .int .i64 0] 32 (0, 0)) (by (with_reducible repeat (first | refine blk_drewN ?_ _ | refine blk_drew ?_ | refine blk_alloc ?_ _)); exact BK135.out) hb); have n1_ := Aside0.mk (below_step (by repeat (first | (with_reducible first | exact HB.out | apply below_alloc | apply pw_below_drewN | apply below_drew1 | refine below_set ?_ GE135.out) | exact HB.out)) hb); clear BK135; clear HB; have BK135 := n0_; have HB := n1_; clear n0_ n1_; (try clear hb); (try clear hb2); (try clear hk); (try clear hi); (try simp only [errW_none, errW_some]); have hcz41_0 : w40.cell? ⟨gb135, 0, none⟩ = some (.int .i64 0) := (blk_cell BK135.out 0).trans rfl; have hcz41_1 : w40.cell? ⟨gb135, 1, none⟩ = some (.string (⟨#[]⟩ : ByteArray)) := (blk_cell BK135.out 1).trans rfl; have hcz41_2 : w40.cell? ⟨gb135, 2, none⟩ = some (.int .i64 0) := (blk_cell BK135.out 2).trans rfl; have hcz41_3 : w40.cell? ⟨gb135, 3, none⟩ = some (.int .i64 0) := (blk_cell BK135.out 3).trans rfl; have hfz41_0 := blk_frozen BK135.out 0; have hfz41_1 := blk_frozen BK135.out 1; have hfz41_2 := blk_frozen BK135.out 2; have hfz41_3 := blk_frozen BK135.out 3))
                        refine bodyPost_ret (results_ct rfl _ _ gb135 32 #[.int .i64 2, .string (a0.extract 0 (x6_1 : Int).toNat), .int .i64 t141, .int .i64 0] (0, 0) _ rfl (by (with_reducible repeat (first | refine blk_drewN ?_ _ | refine blk_drew ?_ | refine blk_alloc ?_ _)); refine blk_put (cs := #[.int .i64 2, .string (a0.extract 0 (x6_1 : Int).toNat), .int .i64 t141, .int .i64 0]) ?_ 3 _ rfl; (with_reducible repeat (first | refine blk_drewN ?_ _ | refine blk_drew ?_ | refine blk_alloc ?_ _)); refine blk_put (cs := #[.int .i64 2, .string (a0.extract 0 (x6_1 : Int).toNat), .int .i64 0, .int .i64 0]) ?_ 2 _ rfl; (with_reducible repeat (first | refine blk_drewN ?_ _ | refine blk_drew ?_ | refine blk_alloc ?_ _)); refine blk_put (cs := #[.int .i64 2, .string (⟨#[]⟩ : ByteArray), .int .i64 0, .int .i64 0]) ?_ 1 _ rfl; (with_reducible repeat (first | refine blk_drewN ?_ _ | refine blk_drew ?_ | refine blk_alloc ?_ _)); refine blk_put (cs := #[.int .i64 0, .string (⟨#[]⟩ : ByteArray), .int .i64 0, .int .i64 0]) ?_ 0 _ rfl; (with_reducible repeat (first | refine blk_drewN ?_ _ | refine blk_drew ?_ | refine blk_alloc ?_ _)); exact BK135.out) Tryd.underlying32 rfl (by kernel_rfl)) rfl ?_
                        exact ⟨by first | rfl | (simp [errW_none, errW_some] <;> rfl) | (simp [*, errW_none, errW_some] <;> rfl), by repeat (first | (with_reducible first | exact HB.out | apply below_alloc | apply pw_below_drewN | apply below_drew1 | refine below_set ?_ GE135.out) | exact HB.out)⟩
                    · have H1 : (some (0, (⟨#[]⟩ : ByteArray), 0, 0, 0)) = some (r1, r2, r3, r4, r5) := by rw [if_neg (show ¬ (some q143).isNone = true by simp)] at H; exact H
                      clear H
                      have H := H1
                      clear H1
                      try simp only [errW_none, errW_some]
                      simp only [Option.some.injEq, Prod.mk.injEq] at H
                      obtain ⟨rfl, rfl, rfl, rfl, rfl⟩ := H
                      have p24 : 0 ≤ (x6_1 : Int) := of_decide_eq_true (by first | (with_reducible assumption) | assumption)
                      have q24 : x6_1 < (a0.size : Int) := of_decide_eq_true (by first | (with_reducible assumption) | assumption)
                      have hx24 := bt_at a0 x6_1
                      replace p24 := eq_true p24
                      replace q24 := eq_true q24
                      go_wp2_with (first | (go_at_call 23; refine calls_of_args (args' := #[.int .u8 (bt a0 x6_1)]) (by first | rfl) ?_; (with_reducible refine (lex_digit.calls (bt a0 x6_1) false _ A25.out).mono ?_); rintro e w' ⟨rfl, ⟨nd, rfl⟩⟩; (try (rw [drewN_self wr]; generalize hq_ : World.drewN wr _ = wr; have n0_ : Aside0 (wr.heap[gb135]? = some (.cells #[.int .i64 0, .string (⟨#[]⟩ : ByteArray), .int .i64 0, .int .i64 0] 32 (0, 0))) := ⟨by rw [← hq_]; exact (by (with_reducible repeat (first | refine blk_drewN ?_ _ | refine blk_drew ?_ | refine blk_alloc ?_ _)); exact BK135.out)⟩; have n1_ : Aside0 (Below w.heap.size w wr) := ⟨by rw [← hq_]; exact (by repeat (first | (with_reducible first | exact HB.out | apply below_alloc | apply pw_below_drewN | apply below_drew1 | refine below_set ?_ GE135.out) | exact HB.out))⟩; clear BK135 HB hq_; have BK135 := n0_; have HB := n1_; clear n0_ n1_))) | ((with_reducible refine gate_callee (f := 24) rfl ?_); refine goesL_ (some 52) rfl rfl Tryd.func24 (by kernel_rfl) rfl #[.string (a0.extract 0 (x6_1 : Int).toNat), .int .i64 10, .int .i64 64] rfl (by (try simp only [List.map_toArray, List.map_cons, List.map_nil]); first | done | rfl | (simp only [List.length_drop, List.length_take]; rfl)) ?_; (with_reducible refine (strconv_ParseInt.calls (a0.extract 0 (x6_1 : Int).toNat) 10 64 t141 (some q143) _ A29.out (Tabs.below HT.out (by repeat (first | (with_reducible first | exact HB.out | apply below_alloc | apply pw_below_drewN | apply below_drew1 | refine below_set ?_ GE135.out) | exact HB.out)))).mono ?_); rintro e w42 ⟨⟨ev_, hev_, rfl⟩, hb⟩; obtain ⟨N_, rfl⟩ : ∃ N, ev_ = Value.iface 80 (.pointer (some ⟨N, 0, none⟩)) := hev_; refine ⟨_, rfl, ?_⟩; have n0_ := Aside0.mk (blk_below (g := gb135) (o := .cells #[.int .i64 0, .string (⟨#[]⟩ : ByteArray), .int .i64 0, .int .i64 0] 32 (0, 0)) (by (with_reducible repeat (first | refine blk_drewN ?_ _ | refine blk_drew ?_ | refine blk_alloc ?_ _)); exact BK135.out) hb); have n1_ := Aside0.mk (below_step (by repeat (first | (with_reducible first | exact HB.out | apply below_alloc | apply pw_below_drewN | apply below_drew1 | refine below_set ?_ GE135.out) | exact HB.out)) hb); clear BK135; clear HB; have BK135 := n0_; have HB := n1_; clear n0_ n1_; (try clear hb); (try clear hb2); (try clear hk); (try clear hi); (try simp only [errW_none, errW_some]); have hcz43_0 : w42.cell? ⟨gb135, 0, none⟩ = some (.int .i64 0) := (blk_cell BK135.out 0).trans rfl; have hcz43_1 : w42.cell? ⟨gb135, 1, none⟩ = some (.string (⟨#[]⟩ : ByteArray)) := (blk_cell BK135.out 1).trans rfl; have hcz43_2 : w42.cell? ⟨gb135, 2, none⟩ = some (.int .i64 0) := (blk_cell BK135.out 2).trans rfl; have hcz43_3 : w42.cell? ⟨gb135, 3, none⟩ = some (.int .i64 0) := (blk_cell BK135.out 3).trans rfl; have hfz43_0 := blk_frozen BK135.out 0; have hfz43_1 := blk_frozen BK135.out 1; have hfz43_2 := blk_frozen BK135.out 2; have hfz43_3 := blk_frozen BK135.out 3))
                      refine bodyPost_ret (results_ct rfl _ _ gb135 32 #[.int .i64 0, .string (⟨#[]⟩ : ByteArray), .int .i64 0, .int .i64 0] (0, 0) _ rfl (by (with_reducible repeat (first | refine blk_drewN ?_ _ | refine blk_drew ?_ | refine blk_alloc ?_ _)); refine blk_put (cs := #[.int .i64 0, .string (⟨#[]⟩ : ByteArray), .int .i64 0, .int .i64 0]) ?_ 3 _ rfl; (with_reducible repeat (first | refine blk_drewN ?_ _ | refine blk_drew ?_ | refine blk_alloc ?_ _)); refine blk_put (cs := #[.int .i64 0, .string (⟨#[]⟩ : ByteArray), .int .i64 0, .int .i64 0]) ?_ 2 _ rfl; (with_reducible repeat (first | refine blk_drewN ?_ _ | refine blk_drew ?_ | refine blk_alloc ?_ _)); refine blk_put (cs := #[.int .i64 0, .string (⟨#[]⟩ : ByteArray), .int .i64 0, .int .i64 0]) ?_ 1 _ rfl; (with_reducible repeat (first | refine blk_drewN ?_ _ | refine blk_drew ?_ | refine blk_alloc ?_ _)); refine blk_put (cs := #[.int .i64 0, .string (⟨#[]⟩ : ByteArray), .int .i64 0, .int .i64 0]) ?_ 0 _ rfl; (with_reducible repeat (first | refine blk_drewN ?_ _ | refine blk_drew ?_ | refine blk_alloc ?_ _)); exact BK135.out) Tryd.underlying32 rfl (by kernel_rfl)) rfl ?_
                      exact ⟨by first | rfl | (simp [errW_none, errW_some] <;> rfl) | (simp [*, errW_none, errW_some] <;> rfl), by repeat (first | (with_reducible first | exact HB.out | apply below_alloc | apply pw_below_drewN | apply below_drew1 | refine below_set ?_ GE135.out) | exact HB.out)⟩
                  · rw [if_neg c28] at H
                    exact absurd H (by simp)
              · rw [if_neg c23] at H
                exact absurd H (by simp)
            · rw [if_neg c22] at H
              have c22b0 : decide (x6_1 < (a0.size : Int)) = false := decide_eq_false c22
              clear c22
              by_cases c44 : 0 ≤ x6_1
              · rw [if_pos c44] at H
                have c44b0 := eq_true c44
                have c44b1 : decide (0 ≤ x6_1) = true := decide_eq_true c44
                clear c44
                by_cases c45 : x6_1 ≤ (a0.size : Int)
                · rw [if_pos c45] at H
                  have c45b0 := eq_true c45
                  have c45b1 : decide (x6_1 ≤ (a0.size : Int)) = true := decide_eq_true c45
                  clear c45
                  replace H := Option.bind_eq_some_iff.mp H
                  obtain ⟨⟨t144, t145⟩, A460, H⟩ := H
                  replace H : (if t145.isNone = true then (if x6_1 > 1 then (if (bt a0 0) = 48 then (some (0, (⟨#[]⟩ : ByteArray), 0, 0, 0)) else (some (2, a0.extract 0 (x6_1 : Int).toNat, t144, 0, x6_1))) else (some (2, a0.extract 0 (x6_1 : Int).toNat, t144, 0, x6_1))) else (some (0, (⟨#[]⟩ : ByteArray), 0, 0, 0))) = some (r1, r2, r3, r4, r5) := H
                  have A46 := Aside0.mk A460
                  clear A460
                  rcases t145 with _ | q146
                  · have H1 : (if x6_1 > 1 then (if (bt a0 0) = 48 then (some (0, (⟨#[]⟩ : ByteArray), 0, 0, 0)) else (some (2, a0.extract 0 (x6_1 : Int).toNat, t144, 0, x6_1))) else (some (2, a0.extract 0 (x6_1 : Int).toNat, t144, 0, x6_1))) = some (r1, r2, r3, r4, r5) := by rw [if_pos (show (none : Option Int).isNone = true by rfl)] at H; exact H
                    clear H
                    have H := H1
                    clear H1
                    try simp only [errW_none, errW_some]
                    by_cases c47 : x6_1 > 1
                    · rw [if_pos c47] at H
                      have c47b0 : decide (1 < x6_1) = true := decide_eq_true c47
                      clear c47
                      by_cases c48 : (bt a0 0) = 48
                      · rw [if_pos c48] at H
                        have c48b0 : ((bt a0 0) == 48) = true := beq_iff_eq.mpr c48
                        have c48b1 : ((bt a0 0) != 48) = false := bne_eq_false_iff_eq.mpr c48
                        clear c48
                        simp only [Option.some.injEq, Prod.mk.injEq] at H
                        obtain ⟨rfl, rfl, rfl, rfl, rfl⟩ := H
                        go_wp2_with (first | ((with_reducible refine gate_callee (f := 24) rfl ?_); refine goesL_ (some 52) rfl rfl Tryd.func24 (by kernel_rfl) rfl #[.string (a0.extract 0 (x6_1 : Int).toNat), .int .i64 10, .int .i64 64] rfl (by (try simp only [List.map_toArray, List.map_cons, List.map_nil]); first | done | rfl | (simp only [List.length_drop, List.length_take]; rfl)) ?_; (with_reducible refine (strconv_ParseInt.calls (a0.extract 0 (x6_1 : Int).toNat) 10 64 t144 none _ A46.out (Tabs.below HT.out (by repeat (first | (with_reducible first | exact HB.out | apply below_alloc | apply pw_below_drewN | apply below_drew1 | refine below_set ?_ GE135.out) | exact HB.out)))).mono ?_); rintro e w49 ⟨⟨ev_, hev_, rfl⟩, hb⟩; obtain rfl : ev_ = Value.nilIface := hev_; refine ⟨_, rfl, ?_⟩; have n0_ := Aside0.mk (blk_below (g := gb135) (o := .cells #[.int .i64 0, .string (⟨#[]⟩ : ByteArray), .int .i64 0, .int .i64 0] 32 (0, 0)) (by (with_reducible repeat (first | refine blk_drewN ?_ _ | refine blk_drew ?_ | refine blk_alloc ?_ _)); exact BK135.out) hb); have n1_ := Aside0.mk (below_step (by repeat (first | (with_reducible first | exact HB.out | apply below_alloc | apply pw_below_drewN | apply below_drew1 | refine below_set ?_ GE135.out) | exact HB.out)) hb); clear BK135; clear HB; have BK135 := n0_; have HB := n1_; clear n0_ n1_; (try clear hb); (try clear hb2); (try clear hk); (try clear hi); (try simp only [errW_none, errW_some]); have hcz50_0 : w49.cell? ⟨gb135, 0, none⟩ = some (.int .i64 0) := (blk_cell BK135.out 0).trans rfl; have hcz50_1 : w49.cell? ⟨gb135, 1, none⟩ = some (.string (⟨#[]⟩ : ByteArray)) := (blk_cell BK135.out 1).trans rfl; have hcz50_2 : w49.cell? ⟨gb135, 2, none⟩ = some (.int .i64 0) := (blk_cell BK135.out 2).trans rfl; have hcz50_3 : w49.cell? ⟨gb135, 3, none⟩ = some (.int .i64 0) := (blk_cell BK135.out 3).trans rfl; have hfz50_0 := blk_frozen BK135.out 0; have hfz50_1 := blk_frozen BK135.out 1; have hfz50_2 := blk_frozen BK135.out 2; have hfz50_3 := blk_frozen BK135.out 3))
                        refine bodyPost_ret (results_ct rfl _ _ gb135 32 #[.int .i64 0, .string (⟨#[]⟩ : ByteArray), .int .i64 0, .int .i64 0] (0, 0) _ rfl (by (with_reducible repeat (first | refine blk_drewN ?_ _ | refine blk_drew ?_ | refine blk_alloc ?_ _)); refine blk_put (cs := #[.int .i64 0, .string (⟨#[]⟩ : ByteArray), .int .i64 0, .int .i64 0]) ?_ 3 _ rfl; (with_reducible repeat (first | refine blk_drewN ?_ _ | refine blk_drew ?_ | refine blk_alloc ?_ _)); refine blk_put (cs := #[.int .i64 0, .string (⟨#[]⟩ : ByteArray), .int .i64 0, .int .i64 0]) ?_ 2 _ rfl; (with_reducible repeat (first | refine blk_drewN ?_ _ | refine blk_drew ?_ | refine blk_alloc ?_ _)); refine blk_put (cs := #[.int .i64 0, .string (⟨#[]⟩ : ByteArray), .int .i64 0, .int .i64 0]) ?_ 1 _ rfl; (with_reducible repeat (first | refine blk_drewN ?_ _ | refine blk_drew ?_ | refine blk_alloc ?_ _)); refine blk_put (cs := #[.int .i64 0, .string (⟨#[]⟩ : ByteArray), .int .i64 0, .int .i64 0]) ?_ 0 _ rfl; (with_reducible repeat (first | refine blk_drewN ?_ _ | refine blk_drew ?_ | refine blk_alloc ?_ _)); exact BK135.out) Tryd.underlying32 rfl (by kernel_rfl)) rfl ?_
                        exact ⟨by first | rfl | (simp [errW_none, errW_some] <;> rfl) | (simp [*, errW_none, errW_some] <;> rfl), by repeat (first | (with_reducible first | exact HB.out | apply below_alloc | apply pw_below_drewN | apply below_drew1 | refine below_set ?_ GE135.out) | exact HB.out)⟩
                      · rw [if_neg c48] at H
                        have c48b0 : ((bt a0 0) == 48) = false := beq_eq_false_iff_ne.mpr c48
                        have c48b1 : ((bt a0 0) != 48) = true := bne_iff_ne.mpr c48
                        have c51b0 := eq_true (of_decide_eq_true (by first | (with_reducible assumption) | assumption) : 0 ≤ x6_1)
                        have c52b0 := eq_true (of_decide_eq_true (by first | (with_reducible assumption) | assumption) : x6_1 ≤ (a0.size : Int))
                        simp only [Option.some.injEq, Prod.mk.injEq] at H
                        obtain ⟨rfl, rfl, rfl, rfl, rfl⟩ := H
                        go_wp2_with (first | ((with_reducible refine gate_callee (f := 24) rfl ?_); refine goesL_ (some 52) rfl rfl Tryd.func24 (by kernel_rfl) rfl #[.string (a0.extract 0 (x6_1 : Int).toNat), .int .i64 10, .int .i64 64] rfl (by (try simp only [List.map_toArray, List.map_cons, List.map_nil]); first | done | rfl | (simp only [List.length_drop, List.length_take]; rfl)) ?_; (with_reducible refine (strconv_ParseInt.calls (a0.extract 0 (x6_1 : Int).toNat) 10 64 t144 none _ A46.out (Tabs.below HT.out (by repeat (first | (with_reducible first | exact HB.out | apply below_alloc | apply pw_below_drewN | apply below_drew1 | refine below_set ?_ GE135.out) | exact HB.out)))).mono ?_); rintro e w53 ⟨⟨ev_, hev_, rfl⟩, hb⟩; obtain rfl : ev_ = Value.nilIface := hev_; refine ⟨_, rfl, ?_⟩; have n0_ := Aside0.mk (blk_below (g := gb135) (o := .cells #[.int .i64 0, .string (⟨#[]⟩ : ByteArray), .int .i64 0, .int .i64 0] 32 (0, 0)) (by (with_reducible repeat (first | refine blk_drewN ?_ _ | refine blk_drew ?_ | refine blk_alloc ?_ _)); exact BK135.out) hb); have n1_ := Aside0.mk (below_step (by repeat (first | (with_reducible first | exact HB.out | apply below_alloc | apply pw_below_drewN | apply below_drew1 | refine below_set ?_ GE135.out) | exact HB.out)) hb); clear BK135; clear HB; have BK135 := n0_; have HB := n1_; clear n0_ n1_; (try clear hb); (try clear hb2); (try clear hk); (try clear hi); (try simp only [errW_none, errW_some]); have hcz54_0 : w53.cell? ⟨gb135, 0, none⟩ = some (.int .i64 0) := (blk_cell BK135.out 0).trans rfl; have hcz54_1 : w53.cell? ⟨gb135, 1, none⟩ = some (.string (⟨#[]⟩ : ByteArray)) := (blk_cell BK135.out 1).trans rfl; have hcz54_2 : w53.cell? ⟨gb135, 2, none⟩ = some (.int .i64 0) := (blk_cell BK135.out 2).trans rfl; have hcz54_3 : w53.cell? ⟨gb135, 3, none⟩ = some (.int .i64 0) := (blk_cell BK135.out 3).trans rfl; have hfz54_0 := blk_frozen BK135.out 0; have hfz54_1 := blk_frozen BK135.out 1; have hfz54_2 := blk_frozen BK135.out 2; have hfz54_3 := blk_frozen BK135.out 3))
                        refine bodyPost_ret (results_ct rfl _ _ gb135 32 #[.int .i64 2, .string (a0.extract 0 (x6_1 : Int).toNat), .int .i64 t144, .int .i64 0] (0, 0) _ rfl (by (with_reducible repeat (first | refine blk_drewN ?_ _ | refine blk_drew ?_ | refine blk_alloc ?_ _)); refine blk_put (cs := #[.int .i64 2, .string (a0.extract 0 (x6_1 : Int).toNat), .int .i64 t144, .int .i64 0]) ?_ 3 _ rfl; (with_reducible repeat (first | refine blk_drewN ?_ _ | refine blk_drew ?_ | refine blk_alloc ?_ _)); refine blk_put (cs := #[.int .i64 2, .string (a0.extract 0 (x6_1 : Int).toNat), .int .i64 0, .int .i64 0]) ?_ 2 _ rfl; (with_reducible repeat (first | refine blk_drewN ?_ _ | refine blk_drew ?_ | refine blk_alloc ?_ _)); refine blk_put (cs := #[.int .i64 2, .string (⟨#[]⟩ : ByteArray), .int .i64 0, .int .i64 0]) ?_ 1 _ rfl; (with_reducible repeat (first | refine blk_drewN ?_ _ | refine blk_drew ?_ | refine blk_alloc ?_ _)); refine blk_put (cs := #[.int .i64 0, .string (⟨#[]⟩ : ByteArray), .int .i64 0, .int .i64 0]) ?_ 0 _ rfl; (with_reducible repeat (first | refine blk_drewN ?_ _ | refine blk_drew ?_ | refine blk_alloc ?_ _)); exact BK135.out) Tryd.underlying32 rfl (by kernel_rfl)) rfl ?_
                        exact ⟨by first | rfl | (simp [errW_none, errW_some] <;> rfl) | (simp [*, errW_none, errW_some] <;> rfl), by repeat (first | (with_reducible first | exact HB.out | apply below_alloc | apply pw_below_drewN | apply below_drew1 | refine below_set ?_ GE135.out) | exact HB.out)⟩
                    · rw [if_neg c47] at H
                      have c47b0 : decide (1 < x6_1) = false := decide_eq_false c47
                      clear c47
                      have c55b0 := eq_true (of_decide_eq_true (by first | (with_reducible assumption) | assumption) : 0 ≤ x6_1)
                      have c56b0 := eq_true (of_decide_eq_true (by first | (with_reducible assumption) | assumption) : x6_1 ≤ (a0.size : Int))
                      simp only [Option.some.injEq, Prod.mk.injEq] at H
                      obtain ⟨rfl, rfl, rfl, rfl, rfl⟩ := H
                      go_wp2_with (first | ((with_reducible refine gate_callee (f := 24) rfl ?_); refine goesL_ (some 52) rfl rfl Tryd.func24 (by kernel_rfl) rfl #[.string (a0.extract 0 (x6_1 : Int).toNat), .int .i64 10, .int .i64 64] rfl (by (try simp only [List.map_toArray, List.map_cons, List.map_nil]); first | done | rfl | (simp only [List.length_drop, List.length_take]; rfl)) ?_; (with_reducible refine (strconv_ParseInt.calls (a0.extract 0 (x6_1 : Int).toNat) 10 64 t144 none _ A46.out (Tabs.below HT.out (by repeat (first | (with_reducible first | exact HB.out | apply below_alloc | apply pw_below_drewN | apply below_drew1 | refine below_set ?_ GE135.out) | exact HB.out)))).mono ?_); rintro e w57 ⟨⟨ev_, hev_, rfl⟩, hb⟩; obtain rfl : ev_ = Value.nilIface := hev_; refine ⟨_, rfl, ?_⟩; have n0_ := Aside0.mk (blk_below (g := gb135) (o := .cells #[.int .i64 0, .string (⟨#[]⟩ : ByteArray), .int .i64 0, .int .i64 0] 32 (0, 0)) (by (with_reducible repeat (first | refine blk_drewN ?_ _ | refine blk_drew ?_ | refine blk_alloc ?_ _)); exact BK135.out) hb); have n1_ := Aside0.mk (below_step (by repeat (first | (with_reducible first | exact HB.out | apply below_alloc | apply pw_below_drewN | apply below_drew1 | refine below_set ?_ GE135.out) | exact HB.out)) hb); clear BK135; clear HB; have BK135 := n0_; have HB := n1_; clear n0_ n1_; (try clear hb); (try clear hb2); (try clear hk); (try clear hi); (try simp only [errW_none, errW_some]); have hcz58_0 : w57.cell? ⟨gb135, 0, none⟩ = some (.int .i64 0) := (blk_cell BK135.out 0).trans rfl; have hcz58_1 : w57.cell? ⟨gb135, 1, none⟩ = some (.string (⟨#[]⟩ : ByteArray)) := (blk_cell BK135.out 1).trans rfl; have hcz58_2 : w57.cell? ⟨gb135, 2, none⟩ = some (.int .i64 0) := (blk_cell BK135.out 2).trans rfl; have hcz58_3 : w57.cell? ⟨gb135, 3, none⟩ = some (.int .i64 0) := (blk_cell BK135.out 3).trans rfl; have hfz58_0 := blk_frozen BK135.out 0; have hfz58_1 := blk_frozen BK135.out 1; have hfz58_2 := blk_frozen BK135.out 2; have hfz58_3 := blk_frozen BK135.out 3))
                      refine bodyPost_ret (results_ct rfl _ _ gb135 32 #[.int .i64 2, .string (a0.extract 0 (x6_1 : Int).toNat), .int .i64 t144, .int .i64 0] (0, 0) _ rfl (by (with_reducible repeat (first | refine blk_drewN ?_ _ | refine blk_drew ?_ | refine blk_alloc ?_ _)); refine blk_put (cs := #[.int .i64 2, .string (a0.extract 0 (x6_1 : Int).toNat), .int .i64 t144, .int .i64 0]) ?_ 3 _ rfl; (with_reducible repeat (first | refine blk_drewN ?_ _ | refine blk_drew ?_ | refine blk_alloc ?_ _)); refine blk_put (cs := #[.int .i64 2, .string (a0.extract 0 (x6_1 : Int).toNat), .int .i64 0, .int .i64 0]) ?_ 2 _ rfl; (with_reducible repeat (first | refine blk_drewN ?_ _ | refine blk_drew ?_ | refine blk_alloc ?_ _)); refine blk_put (cs := #[.int .i64 2, .string (⟨#[]⟩ : ByteArray), .int .i64 0, .int .i64 0]) ?_ 1 _ rfl; (with_reducible repeat (first | refine blk_drewN ?_ _ | refine blk_drew ?_ | refine blk_alloc ?_ _)); refine blk_put (cs := #[.int .i64 0, .string (⟨#[]⟩ : ByteArray), .int .i64 0, .int .i64 0]) ?_ 0 _ rfl; (with_reducible repeat (first | refine blk_drewN ?_ _ | refine blk_drew ?_ | refine blk_alloc ?_ _)); exact BK135.out) Tryd.underlying32 rfl (by kernel_rfl)) rfl ?_
                      exact ⟨by first | rfl | (simp [errW_none, errW_some] <;> rfl) | (simp [*, errW_none, errW_some] <;> rfl), by repeat (first | (with_reducible first | exact HB.out | apply below_alloc | apply pw_below_drewN | apply below_drew1 | refine below_set ?_ GE135.out) | exact HB.out)⟩
                  · have H1 : (some (0, (⟨#[]⟩ : ByteArray), 0, 0, 0)) = some (r1, r2, r3, r4, r5) := by rw [if_neg (show ¬ (some q146).isNone = true by simp)] at H; exact H
                    clear H
                    have H := H1
                    clear H1
                    try simp only [errW_none, errW_some]
                    simp only [Option.some.injEq, Prod.mk.injEq] at H
                    obtain ⟨rfl, rfl, rfl, rfl, rfl⟩ := H
                    go_wp2_with (first | ((with_reducible refine gate_callee (f := 24) rfl ?_); refine goesL_ (some 52) rfl rfl Tryd.func24 (by kernel_rfl) rfl #[.string (a0.extract 0 (x6_1 : Int).toNat), .int .i64 10, .int .i64 64] rfl (by (try simp only [List.map_toArray, List.map_cons, List.map_nil]); first | done | rfl | (simp only [List.length_drop, List.length_take]; rfl)) ?_; (with_reducible refine (strconv_ParseInt.calls (a0.extract 0 (x6_1 : Int).toNat) 10 64 t144 (some q146) _ A46.out (Tabs.below HT.out (by repeat (first | (with_reducible first | exact HB.out | apply below_alloc | apply pw_below_drewN | apply below_drew1 | refine below_set ?_ GE135.out) | exact HB.out)))).mono ?_); rintro e w59 ⟨⟨ev_, hev_, rfl⟩, hb⟩; obtain ⟨N_, rfl⟩ : ∃ N, ev_ = Value.iface 80 (.pointer (some ⟨N, 0, none⟩)) := hev_; refine ⟨_, rfl, ?_⟩; have n0_ := Aside0.mk (blk_below (g := gb135) (o := .cells #[.int .i64 0, .string (⟨#[]⟩ : ByteArray), .int .i64 0, .int .i64 0] 32 (0, 0)) (by (with_reducible repeat (first | refine blk_drewN ?_ _ | refine blk_drew ?_ | refine blk_alloc ?_ _)); exact BK135.out) hb); have n1_ := Aside0.mk (below_step (by repeat (first | (with_reducible first | exact HB.out | apply below_alloc | apply pw_below_drewN | apply below_drew1 | refine below_set ?_ GE135.out) | exact HB.out)) hb); clear BK135; clear HB; have BK135 := n0_; have HB := n1_; clear n0_ n1_; (try clear hb); (try clear hb2); (try clear hk); (try clear hi); (try simp only [errW_none, errW_some]); have hcz60_0 : w59.cell? ⟨gb135, 0, none⟩ = some (.int .i64 0) := (blk_cell BK135.out 0).trans rfl; have hcz60_1 : w59.cell? ⟨gb135, 1, none⟩ = some (.string (⟨#[]⟩ : ByteArray)) := (blk_cell BK135.out 1).trans rfl; have hcz60_2 : w59.cell? ⟨gb135, 2, none⟩ = some (.int .i64 0) := (blk_cell BK135.out 2).trans rfl; have hcz60_3 : w59.cell? ⟨gb135, 3, none⟩ = some (.int .i64 0) := (blk_cell BK135.out 3).trans rfl; have hfz60_0 := blk_frozen BK135.out 0; have hfz60_1 := blk_frozen BK135.out 1; have hfz60_2 := blk_frozen BK135.out 2; have hfz60_3 := blk_frozen BK135.out 3))
                    refine bodyPost_ret (results_ct rfl _ _ gb135 32 #[.int .i64 0, .string (⟨#[]⟩ : ByteArray), .int .i64 0, .int .i64 0] (0, 0) _ rfl (by (with_reducible repeat (first | refine blk_drewN ?_ _ | refine blk_drew ?_ | refine blk_alloc ?_ _)); refine blk_put (cs := #[.int .i64 0, .string (⟨#[]⟩ : ByteArray), .int .i64 0, .int .i64 0]) ?_ 3 _ rfl; (with_reducible repeat (first | refine blk_drewN ?_ _ | refine blk_drew ?_ | refine blk_alloc ?_ _)); refine blk_put (cs := #[.int .i64 0, .string (⟨#[]⟩ : ByteArray), .int .i64 0, .int .i64 0]) ?_ 2 _ rfl; (with_reducible repeat (first | refine blk_drewN ?_ _ | refine blk_drew ?_ | refine blk_alloc ?_ _)); refine blk_put (cs := #[.int .i64 0, .string (⟨#[]⟩ : ByteArray), .int .i64 0, .int .i64 0]) ?_ 1 _ rfl; (with_reducible repeat (first | refine blk_drewN ?_ _ | refine blk_drew ?_ | refine blk_alloc ?_ _)); refine blk_put (cs := #[.int .i64 0, .string (⟨#[]⟩ : ByteArray), .int .i64 0, .int .i64 0]) ?_ 0 _ rfl; (with_reducible repeat (first | refine blk_drewN ?_ _ | refine blk_drew ?_ | refine blk_alloc ?_ _)); exact BK135.out) Tryd.underlying32 rfl (by kernel_rfl)) rfl ?_
                    exact ⟨by first | rfl | (simp [errW_none, errW_some] <;> rfl) | (simp [*, errW_none, errW_some] <;> rfl), by repeat (first | (with_reducible first | exact HB.out | apply below_alloc | apply pw_below_drewN | apply below_drew1 | refine below_set ?_ GE135.out) | exact HB.out)⟩
                · rw [if_neg c45] at H
                  exact absurd H (by simp)
              · rw [if_neg c44] at H
                exact absurd H (by simp)
      · replace c20 := Bool.eq_false_iff.mpr c20
        subst c20
        have H1 : (if (bt a0 0) = 34 then ((lex_text.f k a0).bind fun bt147 => (if bt147.2.2 = true then (some (3, bt147.2.1, 0, 0, bt147.1)) else (some (0, (⟨#[]⟩ : ByteArray), 0, 0, 0)))) else (if (bt a0 0) = 39 then (if 1 ≤ (a0.size : Int) then ((lex_run.f k (a0.extract 1 a0.size)).bind fun t150 => (if 1 ≤ (wrap64 (1 + t150)) then (if (wrap64 (1 + t150)) ≤ (a0.size : Int) then ((value_Name.f (a0.extract 1 ((wrap64 (1 + t150)) : Int).toNat)).bind fun t151 => (if t151 = true then (some (4, a0.extract 1 ((wrap64 (1 + t150)) : Int).toNat, 0, 0, wrap64 (1 + t150))) else (some (0, (⟨#[]⟩ : ByteArray), 0, 0, 0)))) else (none)) else (none))) else (none)) else (some (signAt a0)))) = some (r1, r2, r3, r4, r5) := by rw [if_neg (show ¬ (false = true) by decide)] at H; exact H
        clear H
        have H := H1
        clear H1
        by_cases c61 : (bt a0 0) = 34
        · rw [if_pos c61] at H
          have c61b0 : ((bt a0 0) == 34) = true := beq_iff_eq.mpr c61
          have c61b1 : ((bt a0 0) != 34) = false := bne_eq_false_iff_eq.mpr c61
          clear c61
          replace H := Option.bind_eq_some_iff.mp H
          obtain ⟨⟨t147, t148, t149⟩, A620, H⟩ := H
          replace H : (if t149 = true then (some (3, t148, 0, 0, t147)) else (some (0, (⟨#[]⟩ : ByteArray), 0, 0, 0))) = some (r1, r2, r3, r4, r5) := H
          have A62 := Aside0.mk A620
          clear A620
          by_cases c63 : t149 = true
          · subst c63
            have H1 : (some (3, t148, 0, 0, t147)) = some (r1, r2, r3, r4, r5) := by rw [if_pos rfl] at H; exact H
            clear H
            have H := H1
            clear H1
            simp only [Option.some.injEq, Prod.mk.injEq] at H
            obtain ⟨rfl, rfl, rfl, rfl, rfl⟩ := H
            go_enter Tryd.func13, Tryd.ntmps13
            go_wp2_with (first | ((with_reducible refine gate_dst (N := 2) rfl ?_); refine box_event ?hg (N := 2) ?hd (cs := #[.int .i64 0, .string (⟨#[]⟩ : ByteArray), .int .i64 0, .int .i64 0]) (t := 32) ?hr ?_; (case hd => rfl); (case hg => rfl); (case hr => first | (go_simp; done) | (go_simp; rfl)); intro gb135 hg w64 hbox hb; have n0_ := Aside0.mk (below_step (by repeat (first | (with_reducible first | exact HB.out | apply below_alloc | apply pw_below_drewN | apply below_drew1) | exact HB.out)) hb); have n1_ := Aside0.mk (hbox); have n2_ := Aside0.mk ((by rw [hg]; exact (below_size (by repeat (first | (with_reducible first | exact HB.out | apply below_alloc | apply pw_below_drewN | apply below_drew1) | exact HB.out))) : w.heap.size ≤ gb135)); have n3_ := Aside0.mk ((by rw [hg]; exact (below_size (by repeat (first | (with_reducible first | exact HB.out | apply below_alloc | apply pw_below_drewN | apply below_drew1) | exact HB.out))) : w.heap.size ≤ gb135)); clear HB; have HB := n0_; have BK135 := n1_; have GW135 := n2_; have GE135 := n3_; clear n0_ n1_ n2_ n3_; clear hb hbox hg; have p3 : 0 ≤ (0 : Int) := (by omega); have q3 : 0 < a0.size := (by have : (0 : Int) < (a0.size : Int) := of_decide_eq_true (by first | (with_reducible assumption) | assumption); omega); have hx3 : ∀ h : 0 < a0.size, ((a0[0]'h).toNat : Int) = bt a0 0 := bt_at a0 0; clear p3; have qi3 : (0 < (a0.size : Int)) = True := eq_true (of_decide_eq_true (by first | (with_reducible assumption) | assumption)); replace q3 := eq_true q3) | ((with_reducible refine gate_callee (f := 20) rfl ?_); refine goesL_ (some 19) rfl rfl Tryd.func20 (by kernel_rfl) rfl #[.int .u8 (bt a0 0)] rfl (by (try simp only [List.map_toArray, List.map_cons, List.map_nil]); first | done | rfl | (simp only [List.length_drop, List.length_take]; rfl)) ?_; (with_reducible refine (lex_letter.calls (bt a0 0) false _ A4.out).mono ?_); rintro e w' ⟨rfl, ⟨nd, rfl⟩⟩; refine ⟨_, rfl, ?_⟩; (try (rw [drewN_self w64]; generalize hq_ : World.drewN w64 _ = w64; have n0_ : Aside0 (w64.heap[gb135]? = some (.cells #[.int .i64 0, .string (⟨#[]⟩ : ByteArray), .int .i64 0, .int .i64 0] 32 (0, 0))) := ⟨by rw [← hq_]; exact (by (with_reducible repeat (first | refine blk_drewN ?_ _ | refine blk_drew ?_ | refine blk_alloc ?_ _)); exact BK135.out)⟩; have n1_ : Aside0 (Below w.heap.size w w64) := ⟨by rw [← hq_]; exact (by repeat (first | (with_reducible first | exact HB.out | apply below_alloc | apply pw_below_drewN | apply below_drew1 | refine below_set ?_ GE135.out) | exact HB.out))⟩; clear BK135 HB hq_; have BK135 := n0_; have HB := n1_; clear n0_ n1_))) | ((with_reducible refine gate_callee (f := 23) rfl ?_); refine goesL_ (some 35) rfl rfl Tryd.func23 (by kernel_rfl) rfl #[.int .u8 (bt a0 0)] rfl (by (try simp only [List.map_toArray, List.map_cons, List.map_nil]); first | done | rfl | (simp only [List.length_drop, List.length_take]; rfl)) ?_; (with_reducible refine (lex_digit.calls (bt a0 0) false _ A19.out).mono ?_); rintro e w' ⟨rfl, ⟨nd, rfl⟩⟩; refine ⟨_, rfl, ?_⟩; (try (rw [drewN_self w64]; generalize hq_ : World.drewN w64 _ = w64; have n0_ : Aside0 (w64.heap[gb135]? = some (.cells #[.int .i64 0, .string (⟨#[]⟩ : ByteArray), .int .i64 0, .int .i64 0] 32 (0, 0))) := ⟨by rw [← hq_]; exact (by (with_reducible repeat (first | refine blk_drewN ?_ _ | refine blk_drew ?_ | refine blk_alloc ?_ _)); exact BK135.out)⟩; have n1_ : Aside0 (Below w.heap.size w w64) := ⟨by rw [← hq_]; exact (by repeat (first | (with_reducible first | exact HB.out | apply below_alloc | apply pw_below_drewN | apply below_drew1 | refine below_set ?_ GE135.out) | exact HB.out))⟩; clear BK135 HB hq_; have BK135 := n0_; have HB := n1_; clear n0_ n1_))) | ((with_reducible refine gate_callee (f := 25) rfl ?_); refine goesL_ (some 77) rfl rfl Tryd.func25 (by kernel_rfl) rfl #[.string a0] rfl (by (try simp only [List.map_toArray, List.map_cons, List.map_nil]); first | done | rfl | (simp only [List.length_drop, List.length_take]; rfl)) ?_; (with_reducible refine (lex_text.calls k a0 t147 t148 true _ A62.out (Tabs.below HT.out (by repeat (first | (with_reducible first | exact HB.out | apply below_alloc | apply pw_below_drewN | apply below_drew1 | refine below_set ?_ GE135.out) | exact HB.out)))).mono ?_); rintro e w65 ⟨rfl, hb⟩; refine ⟨_, rfl, ?_⟩; have n0_ := Aside0.mk (blk_below (g := gb135) (o := .cells #[.int .i64 0, .string (⟨#[]⟩ : ByteArray), .int .i64 0, .int .i64 0] 32 (0, 0)) (by (with_reducible repeat (first | refine blk_drewN ?_ _ | refine blk_drew ?_ | refine blk_alloc ?_ _)); exact BK135.out) hb); have n1_ := Aside0.mk (below_step (by repeat (first | (with_reducible first | exact HB.out | apply below_alloc | apply pw_below_drewN | apply below_drew1 | refine below_set ?_ GE135.out) | exact HB.out)) hb); clear BK135; clear HB; have BK135 := n0_; have HB := n1_; clear n0_ n1_; (try clear hb); (try clear hb2); (try clear hk); (try clear hi); have hcz66_0 : w65.cell? ⟨gb135, 0, none⟩ = some (.int .i64 0) := (blk_cell BK135.out 0).trans rfl; have hcz66_1 : w65.cell? ⟨gb135, 1, none⟩ = some (.string (⟨#[]⟩ : ByteArray)) := (blk_cell BK135.out 1).trans rfl; have hcz66_2 : w65.cell? ⟨gb135, 2, none⟩ = some (.int .i64 0) := (blk_cell BK135.out 2).trans rfl; have hcz66_3 : w65.cell? ⟨gb135, 3, none⟩ = some (.int .i64 0) := (blk_cell BK135.out 3).trans rfl; have hfz66_0 := blk_frozen BK135.out 0; have hfz66_1 := blk_frozen BK135.out 1; have hfz66_2 := blk_frozen BK135.out 2; have hfz66_3 := blk_frozen BK135.out 3))
            refine bodyPost_ret (results_ct rfl _ _ gb135 32 #[.int .i64 3, .string t148, .int .i64 0, .int .i64 0] (0, 0) _ rfl (by (with_reducible repeat (first | refine blk_drewN ?_ _ | refine blk_drew ?_ | refine blk_alloc ?_ _)); refine blk_put (cs := #[.int .i64 3, .string t148, .int .i64 0, .int .i64 0]) ?_ 3 _ rfl; (with_reducible repeat (first | refine blk_drewN ?_ _ | refine blk_drew ?_ | refine blk_alloc ?_ _)); refine blk_put (cs := #[.int .i64 3, .string t148, .int .i64 0, .int .i64 0]) ?_ 2 _ rfl; (with_reducible repeat (first | refine blk_drewN ?_ _ | refine blk_drew ?_ | refine blk_alloc ?_ _)); refine blk_put (cs := #[.int .i64 3, .string (⟨#[]⟩ : ByteArray), .int .i64 0, .int .i64 0]) ?_ 1 _ rfl; (with_reducible repeat (first | refine blk_drewN ?_ _ | refine blk_drew ?_ | refine blk_alloc ?_ _)); refine blk_put (cs := #[.int .i64 0, .string (⟨#[]⟩ : ByteArray), .int .i64 0, .int .i64 0]) ?_ 0 _ rfl; (with_reducible repeat (first | refine blk_drewN ?_ _ | refine blk_drew ?_ | refine blk_alloc ?_ _)); exact BK135.out) Tryd.underlying32 rfl (by kernel_rfl)) rfl ?_
            exact ⟨by first | rfl | (simp [errW_none, errW_some] <;> rfl) | (simp [*, errW_none, errW_some] <;> rfl), by repeat (first | (with_reducible first | exact HB.out | apply below_alloc | apply pw_below_drewN | apply below_drew1 | refine below_set ?_ GE135.out) | exact HB.out)⟩
          · replace c63 := Bool.eq_false_iff.mpr c63
            subst c63
            have H1 : (some (0, (⟨#[]⟩ : ByteArray), 0, 0, 0)) = some (r1, r2, r3, r4, r5) := by rw [if_neg (show ¬ (false = true) by decide)] at H; exact H
            clear H
            have H := H1
            clear H1
            simp only [Option.some.injEq, Prod.mk.injEq] at H
            obtain ⟨rfl, rfl, rfl, rfl, rfl⟩ := H
            go_enter Tryd.func13, Tryd.ntmps13
            go_wp2_with (first | ((with_reducible refine gate_dst (N := 2) rfl ?_); refine box_event ?hg (N := 2) ?hd (cs := #[.int .i64 0, .string (⟨#[]⟩ : ByteArray), .int .i64 0, .int .i64 0]) (t := 32) ?hr ?_; (case hd => rfl); (case hg => rfl); (case hr => first | (go_simp; done) | (go_simp; rfl)); intro gb135 hg w67 hbox hb; have n0_ := Aside0.mk (below_step (by repeat (first | (with_reducible first | exact HB.out | apply below_alloc | apply pw_below_drewN | apply below_drew1) | exact HB.out)) hb); have n1_ := Aside0.mk (hbox); have n2_ := Aside0.mk ((by rw [hg]; exact (below_size (by repeat (first | (with_reducible first | exact HB.out | apply below_alloc | apply pw_below_drewN | apply below_drew1) | exact HB.out))) : w.heap.size ≤ gb135)); have n3_ := Aside0.mk ((by rw [hg]; exact (below_size (by repeat (first | (with_reducible first | exact HB.out | apply below_alloc | apply pw_below_drewN | apply below_drew1) | exact HB.out))) : w.heap.size ≤ gb135)); clear HB; have HB := n0_; have BK135 := n1_; have GW135 := n2_; have GE135 := n3_; clear n0_ n1_ n2_ n3_; clear hb hbox hg; have p3 : 0 ≤ (0 : Int) := (by omega); have q3 : 0 < a0.size := (by have : (0 : Int) < (a0.size : Int) := of_decide_eq_true (by first | (with_reducible assumption) | assumption); omega); have hx3 : ∀ h : 0 < a0.size, ((a0[0]'h).toNat : Int) = bt a0 0 := bt_at a0 0; clear p3; have qi3 : (0 < (a0.size : Int)) = True := eq_true (of_decide_eq_true (by first | (with_reducible assumption) | assumption)); replace q3 := eq_true q3) | ((with_reducible refine gate_callee (f := 20) rfl ?_); refine goesL_ (some 19) rfl rfl Tryd.func20 (by kernel_rfl) rfl #[.int .u8 (bt a0 0)] rfl (by (try simp only [List.map_toArray, List.map_cons, List.map_nil]); first | done | rfl | (simp only [List.length_drop, List.length_take]; rfl)) ?_; (with_reducible refine (lex_letter.calls (bt a0 0) false _ A4.out).mono ?_); rintro e w' ⟨rfl, ⟨nd, rfl⟩⟩; refine ⟨_, rfl, ?_⟩; (try (rw [drewN_self w67]; generalize hq_ : World.drewN w67 _ = w67; have n0_ : Aside0 (w67.heap[gb135]? = some (.cells #[.int .i64 0, .string (⟨#[]⟩ : ByteArray), .int .i64 0, .int .i64 0] 32 (0, 0))) := ⟨by rw [← hq_]; exact (by (with_reducible repeat (first | refine blk_drewN ?_ _ | refine blk_drew ?_ | refine blk_alloc ?_ _)); exact BK135.out)⟩; have n1_ : Aside0 (Below w.heap.size w w67) := ⟨by rw [← hq_]; exact (by repeat (first | (with_reducible first | exact HB.out | apply below_alloc | apply pw_below_drewN | apply below_drew1 | refine below_set ?_ GE135.out) | exact HB.out))⟩; clear BK135 HB hq_; have BK135 := n0_; have HB := n1_; clear n0_ n1_))) | ((with_reducible refine gate_callee (f := 23) rfl ?_); refine goesL_ (some 35) rfl rfl Tryd.func23 (by kernel_rfl) rfl #[.int .u8 (bt a0 0)] rfl (by (try simp only [List.map_toArray, List.map_cons, List.map_nil]); first | done | rfl | (simp only [List.length_drop, List.length_take]; rfl)) ?_; (with_reducible refine (lex_digit.calls (bt a0 0) false _ A19.out).mono ?_); rintro e w' ⟨rfl, ⟨nd, rfl⟩⟩; refine ⟨_, rfl, ?_⟩; (try (rw [drewN_self w67]; generalize hq_ : World.drewN w67 _ = w67; have n0_ : Aside0 (w67.heap[gb135]? = some (.cells #[.int .i64 0, .string (⟨#[]⟩ : ByteArray), .int .i64 0, .int .i64 0] 32 (0, 0))) := ⟨by rw [← hq_]; exact (by (with_reducible repeat (first | refine blk_drewN ?_ _ | refine blk_drew ?_ | refine blk_alloc ?_ _)); exact BK135.out)⟩; have n1_ : Aside0 (Below w.heap.size w w67) := ⟨by rw [← hq_]; exact (by repeat (first | (with_reducible first | exact HB.out | apply below_alloc | apply pw_below_drewN | apply below_drew1 | refine below_set ?_ GE135.out) | exact HB.out))⟩; clear BK135 HB hq_; have BK135 := n0_; have HB := n1_; clear n0_ n1_))) | ((with_reducible refine gate_callee (f := 25) rfl ?_); refine goesL_ (some 77) rfl rfl Tryd.func25 (by kernel_rfl) rfl #[.string a0] rfl (by (try simp only [List.map_toArray, List.map_cons, List.map_nil]); first | done | rfl | (simp only [List.length_drop, List.length_take]; rfl)) ?_; (with_reducible refine (lex_text.calls k a0 t147 t148 false _ A62.out (Tabs.below HT.out (by repeat (first | (with_reducible first | exact HB.out | apply below_alloc | apply pw_below_drewN | apply below_drew1 | refine below_set ?_ GE135.out) | exact HB.out)))).mono ?_); rintro e w68 ⟨rfl, hb⟩; refine ⟨_, rfl, ?_⟩; have n0_ := Aside0.mk (blk_below (g := gb135) (o := .cells #[.int .i64 0, .string (⟨#[]⟩ : ByteArray), .int .i64 0, .int .i64 0] 32 (0, 0)) (by (with_reducible repeat (first | refine blk_drewN ?_ _ | refine blk_drew ?_ | refine blk_alloc ?_ _)); exact BK135.out) hb); have n1_ := Aside0.mk (below_step (by repeat (first | (with_reducible first | exact HB.out | apply below_alloc | apply pw_below_drewN | apply below_drew1 | refine below_set ?_ GE135.out) | exact HB.out)) hb); clear BK135; clear HB; have BK135 := n0_; have HB := n1_; clear n0_ n1_; (try clear hb); (try clear hb2); (try clear hk); (try clear hi); have hcz69_0 : w68.cell? ⟨gb135, 0, none⟩ = some (.int .i64 0) := (blk_cell BK135.out 0).trans rfl; have hcz69_1 : w68.cell? ⟨gb135, 1, none⟩ = some (.string (⟨#[]⟩ : ByteArray)) := (blk_cell BK135.out 1).trans rfl; have hcz69_2 : w68.cell? ⟨gb135, 2, none⟩ = some (.int .i64 0) := (blk_cell BK135.out 2).trans rfl; have hcz69_3 : w68.cell? ⟨gb135, 3, none⟩ = some (.int .i64 0) := (blk_cell BK135.out 3).trans rfl; have hfz69_0 := blk_frozen BK135.out 0; have hfz69_1 := blk_frozen BK135.out 1; have hfz69_2 := blk_frozen BK135.out 2; have hfz69_3 := blk_frozen BK135.out 3))
            refine bodyPost_ret (results_ct rfl _ _ gb135 32 #[.int .i64 0, .string (⟨#[]⟩ : ByteArray), .int .i64 0, .int .i64 0] (0, 0) _ rfl (by (with_reducible repeat (first | refine blk_drewN ?_ _ | refine blk_drew ?_ | refine blk_alloc ?_ _)); refine blk_put (cs := #[.int .i64 0, .string (⟨#[]⟩ : ByteArray), .int .i64 0, .int .i64 0]) ?_ 3 _ rfl; (with_reducible repeat (first | refine blk_drewN ?_ _ | refine blk_drew ?_ | refine blk_alloc ?_ _)); refine blk_put (cs := #[.int .i64 0, .string (⟨#[]⟩ : ByteArray), .int .i64 0, .int .i64 0]) ?_ 2 _ rfl; (with_reducible repeat (first | refine blk_drewN ?_ _ | refine blk_drew ?_ | refine blk_alloc ?_ _)); refine blk_put (cs := #[.int .i64 0, .string (⟨#[]⟩ : ByteArray), .int .i64 0, .int .i64 0]) ?_ 1 _ rfl; (with_reducible repeat (first | refine blk_drewN ?_ _ | refine blk_drew ?_ | refine blk_alloc ?_ _)); refine blk_put (cs := #[.int .i64 0, .string (⟨#[]⟩ : ByteArray), .int .i64 0, .int .i64 0]) ?_ 0 _ rfl; (with_reducible repeat (first | refine blk_drewN ?_ _ | refine blk_drew ?_ | refine blk_alloc ?_ _)); exact BK135.out) Tryd.underlying32 rfl (by kernel_rfl)) rfl ?_
            exact ⟨by first | rfl | (simp [errW_none, errW_some] <;> rfl) | (simp [*, errW_none, errW_some] <;> rfl), by repeat (first | (with_reducible first | exact HB.out | apply below_alloc | apply pw_below_drewN | apply below_drew1 | refine below_set ?_ GE135.out) | exact HB.out)⟩
        · rw [if_neg c61] at H
          have c61b0 : ((bt a0 0) == 34) = false := beq_eq_false_iff_ne.mpr c61
          have c61b1 : ((bt a0 0) != 34) = true := bne_iff_ne.mpr c61
          by_cases c70 : (bt a0 0) = 39
          · rw [if_pos c70] at H
            have c70b0 : ((bt a0 0) == 39) = true := beq_iff_eq.mpr c70
            have c70b1 : ((bt a0 0) != 39) = false := bne_eq_false_iff_eq.mpr c70
            clear c70
            by_cases c71 : 1 ≤ (a0.size : Int)
            · rw [if_pos c71] at H
              have c71b0 := eq_true c71
              have c71b1 : decide (1 ≤ (a0.size : Int)) = true := decide_eq_true c71
              clear c71
              replace H := Option.bind_eq_some_iff.mp H
              obtain ⟨t150, A720, H⟩ := H
              replace H : (if 1 ≤ (wrap64 (1 + t150)) then (if (wrap64 (1 + t150)) ≤ (a0.size : Int) then ((value_Name.f (a0.extract 1 ((wrap64 (1 + t150)) : Int).toNat)).bind fun t151 => (if t151 = true then (some (4, a0.extract 1 ((wrap64 (1 + t150)) : Int).toNat, 0, 0, wrap64 (1 + t150))) else (some (0, (⟨#[]⟩ : ByteArray), 0, 0, 0)))) else (none)) else (none)) = some (r1, r2, r3, r4, r5) := H
              have A72 := Aside0.mk A720
              clear A720
              by_cases c73 : 1 ≤ (wrap64 (1 + t150))
              · rw [if_pos c73] at H
                have c73b0 := eq_true c73
                have c73b1 : decide (1 ≤ (wrap64 (1 + t150))) = true := decide_eq_true c73
                by_cases c74 : (wrap64 (1 + t150)) ≤ (a0.size : Int)
                · rw [if_pos c74] at H
                  have c74b0 := eq_true c74
                  have c74b1 : decide ((wrap64 (1 + t150)) ≤ (a0.size : Int)) = true := decide_eq_true c74
                  replace H := Option.bind_eq_some_iff.mp H
                  obtain ⟨t151, A750, H⟩ := H
                  replace H : (if t151 = true then (some (4, a0.extract 1 ((wrap64 (1 + t150)) : Int).toNat, 0, 0, wrap64 (1 + t150))) else (some (0, (⟨#[]⟩ : ByteArray), 0, 0, 0))) = some (r1, r2, r3, r4, r5) := H
                  have A75 := Aside0.mk A750
                  clear A750
                  by_cases c76 : t151 = true
                  · subst c76
                    have H1 : (some (4, a0.extract 1 ((wrap64 (1 + t150)) : Int).toNat, 0, 0, wrap64 (1 + t150))) = some (r1, r2, r3, r4, r5) := by rw [if_pos rfl] at H; exact H
                    clear H
                    have H := H1
                    clear H1
                    have c77b0 := eq_true (of_decide_eq_true (by first | (with_reducible assumption) | assumption) : 1 ≤ (wrap64 (1 + t150)))
                    have c78b0 := eq_true (of_decide_eq_true (by first | (with_reducible assumption) | assumption) : (wrap64 (1 + t150)) ≤ (a0.size : Int))
                    simp only [Option.some.injEq, Prod.mk.injEq] at H
                    obtain ⟨rfl, rfl, rfl, rfl, rfl⟩ := H
                    go_enter Tryd.func13, Tryd.ntmps13
                    go_wp2_with (first | ((with_reducible refine gate_dst (N := 2) rfl ?_); refine box_event ?hg (N := 2) ?hd (cs := #[.int .i64 0, .string (⟨#[]⟩ : ByteArray), .int .i64 0, .int .i64 0]) (t := 32) ?hr ?_; (case hd => rfl); (case hg => rfl); (case hr => first | (go_simp; done) | (go_simp; rfl)); intro gb135 hg w79 hbox hb; have n0_ := Aside0.mk (below_step (by repeat (first | (with_reducible first | exact HB.out | apply below_alloc | apply pw_below_drewN | apply below_drew1) | exact HB.out)) hb); have n1_ := Aside0.mk (hbox); have n2_ := Aside0.mk ((by rw [hg]; exact (below_size (by repeat (first | (with_reducible first | exact HB.out | apply below_alloc | apply pw_below_drewN | apply below_drew1) | exact HB.out))) : w.heap.size ≤ gb135)); have n3_ := Aside0.mk ((by rw [hg]; exact (below_size (by repeat (first | (with_reducible first | exact HB.out | apply below_alloc | apply pw_below_drewN | apply below_drew1) | exact HB.out))) : w.heap.size ≤ gb135)); clear HB; have HB := n0_; have BK135 := n1_; have GW135 := n2_; have GE135 := n3_; clear n0_ n1_ n2_ n3_; clear hb hbox hg; have p3 : 0 ≤ (0 : Int) := (by omega); have q3 : 0 < a0.size := (by have : (0 : Int) < (a0.size : Int) := of_decide_eq_true (by first | (with_reducible assumption) | assumption); omega); have hx3 : ∀ h : 0 < a0.size, ((a0[0]'h).toNat : Int) = bt a0 0 := bt_at a0 0; clear p3; have qi3 : (0 < (a0.size : Int)) = True := eq_true (of_decide_eq_true (by first | (with_reducible assumption) | assumption)); replace q3 := eq_true q3) | ((with_reducible refine gate_callee (f := 20) rfl ?_); refine goesL_ (some 19) rfl rfl Tryd.func20 (by kernel_rfl) rfl #[.int .u8 (bt a0 0)] rfl (by (try simp only [List.map_toArray, List.map_cons, List.map_nil]); first | done | rfl | (simp only [List.length_drop, List.length_take]; rfl)) ?_; (with_reducible refine (lex_letter.calls (bt a0 0) false _ A4.out).mono ?_); rintro e w' ⟨rfl, ⟨nd, rfl⟩⟩; refine ⟨_, rfl, ?_⟩; (try (rw [drewN_self w79]; generalize hq_ : World.drewN w79 _ = w79; have n0_ : Aside0 (w79.heap[gb135]? = some (.cells #[.int .i64 0, .string (⟨#[]⟩ : ByteArray), .int .i64 0, .int .i64 0] 32 (0, 0))) := ⟨by rw [← hq_]; exact (by (with_reducible repeat (first | refine blk_drewN ?_ _ | refine blk_drew ?_ | refine blk_alloc ?_ _)); exact BK135.out)⟩; have n1_ : Aside0 (Below w.heap.size w w79) := ⟨by rw [← hq_]; exact (by repeat (first | (with_reducible first | exact HB.out | apply below_alloc | apply pw_below_drewN | apply below_drew1 | refine below_set ?_ GE135.out) | exact HB.out))⟩; clear BK135 HB hq_; have BK135 := n0_; have HB := n1_; clear n0_ n1_))) | ((with_reducible refine gate_callee (f := 23) rfl ?_); refine goesL_ (some 35) rfl rfl Tryd.func23 (by kernel_rfl) rfl #[.int .u8 (bt a0 0)] rfl (by (try simp only [List.map_toArray, List.map_cons, List.map_nil]); first | done | rfl | (simp only [List.length_drop, List.length_take]; rfl)) ?_; (with_reducible refine (lex_digit.calls (bt a0 0) false _ A19.out).mono ?_); rintro e w' ⟨rfl, ⟨nd, rfl⟩⟩; refine ⟨_, rfl, ?_⟩; (try (rw [drewN_self w79]; generalize hq_ : World.drewN w79 _ = w79; have n0_ : Aside0 (w79.heap[gb135]? = some (.cells #[.int .i64 0, .string (⟨#[]⟩ : ByteArray), .int .i64 0, .int .i64 0] 32 (0, 0))) := ⟨by rw [← hq_]; exact (by (with_reducible repeat (first | refine blk_drewN ?_ _ | refine blk_drew ?_ | refine blk_alloc ?_ _)); exact BK135.out)⟩; have n1_ : Aside0 (Below w.heap.size w w79) := ⟨by rw [← hq_]; exact (by repeat (first | (with_reducible first | exact HB.out | apply below_alloc | apply pw_below_drewN | apply below_drew1 | refine below_set ?_ GE135.out) | exact HB.out))⟩; clear BK135 HB hq_; have BK135 := n0_; have HB := n1_; clear n0_ n1_))) | ((with_reducible refine gate_callee (f := 21) rfl ?_); refine goesL_ (some 92) rfl rfl Tryd.func21 (by kernel_rfl) rfl #[.string (a0.extract 1 a0.size)] rfl (by (try simp only [List.map_toArray, List.map_cons, List.map_nil]); first | done | rfl | (simp only [List.length_drop, List.length_take]; rfl)) ?_; (with_reducible refine (lex_run.calls k (a0.extract 1 a0.size) t150 _ A72.out).mono ?_); rintro e w' ⟨rfl, ⟨nd, rfl⟩⟩; refine ⟨_, rfl, ?_⟩; (try (rw [drewN_self w79]; generalize hq_ : World.drewN w79 _ = w79; have n0_ : Aside0 (w79.heap[gb135]? = some (.cells #[.int .i64 0, .string (⟨#[]⟩ : ByteArray), .int .i64 0, .int .i64 0] 32 (0, 0))) := ⟨by rw [← hq_]; exact (by (with_reducible repeat (first | refine blk_drewN ?_ _ | refine blk_drew ?_ | refine blk_alloc ?_ _)); exact BK135.out)⟩; have n1_ : Aside0 (Below w.heap.size w w79) := ⟨by rw [← hq_]; exact (by repeat (first | (with_reducible first | exact HB.out | apply below_alloc | apply pw_below_drewN | apply below_drew1 | refine below_set ?_ GE135.out) | exact HB.out))⟩; clear BK135 HB hq_; have BK135 := n0_; have HB := n1_; clear n0_ n1_))) | ((with_reducible refine gate_callee (f := 22) rfl ?_); refine goesL_ (some 97) rfl rfl Tryd.func22 (by kernel_rfl) rfl #[.string (a0.extract 1 ((wrap64 (1 + t150)) : Int).toNat)] rfl (by (try simp only [List.map_toArray, List.map_cons, List.map_nil]); first | done | rfl | (simp only [List.length_drop, List.length_take]; rfl)) ?_; (with_reducible refine (value_Name.calls (a0.extract 1 ((wrap64 (1 + t150)) : Int).toNat) true _ A75.out).mono ?_); rintro e w80 ⟨rfl, hb⟩; refine ⟨_, rfl, ?_⟩; have n0_ := Aside0.mk (blk_below (g := gb135) (o := .cells #[.int .i64 0, .string (⟨#[]⟩ : ByteArray), .int .i64 0, .int .i64 0] 32 (0, 0)) (by (with_reducible repeat (first | refine blk_drewN ?_ _ | refine blk_drew ?_ | refine blk_alloc ?_ _)); exact BK135.out) hb); have n1_ := Aside0.mk (below_step (by repeat (first | (with_reducible first | exact HB.out | apply below_alloc | apply pw_below_drewN | apply below_drew1 | refine below_set ?_ GE135.out) | exact HB.out)) hb); clear BK135; clear HB; have BK135 := n0_; have HB := n1_; clear n0_ n1_; (try clear hb); (try clear hb2); (try clear hk); (try clear hi); have hcz81_0 : w80.cell? ⟨gb135, 0, none⟩ = some (.int .i64 0) := (blk_cell BK135.out 0).trans rfl; have hcz81_1 : w80.cell? ⟨gb135, 1, none⟩ = some (.string (⟨#[]⟩ : ByteArray)) := (blk_cell BK135.out 1).trans rfl; have hcz81_2 : w80.cell? ⟨gb135, 2, none⟩ = some (.int .i64 0) := (blk_cell BK135.out 2).trans rfl; have hcz81_3 : w80.cell? ⟨gb135, 3, none⟩ = some (.int .i64 0) := (blk_cell BK135.out 3).trans rfl; have hfz81_0 := blk_frozen BK135.out 0; have hfz81_1 := blk_frozen BK135.out 1; have hfz81_2 := blk_frozen BK135.out 2; have hfz81_3 := blk_frozen BK135.out 3))
                    refine bodyPost_ret (results_ct rfl _ _ gb135 32 #[.int .i64 4, .string (a0.extract 1 ((wrap64 (1 + t150)) : Int).toNat), .int .i64 0, .int .i64 0] (0, 0) _ rfl (by (with_reducible repeat (first | refine blk_drewN ?_ _ | refine blk_drew ?_ | refine blk_alloc ?_ _)); refine blk_put (cs := #[.int .i64 4, .string (a0.extract 1 ((wrap64 (1 + t150)) : Int).toNat), .int .i64 0, .int .i64 0]) ?_ 3 _ rfl; (with_reducible repeat (first | refine blk_drewN ?_ _ | refine blk_drew ?_ | refine blk_alloc ?_ _)); refine blk_put (cs := #[.int .i64 4, .string (a0.extract 1 ((wrap64 (1 + t150)) : Int).toNat), .int .i64 0, .int .i64 0]) ?_ 2 _ rfl; (with_reducible repeat (first | refine blk_drewN ?_ _ | refine blk_drew ?_ | refine blk_alloc ?_ _)); refine blk_put (cs := #[.int .i64 4, .string (⟨#[]⟩ : ByteArray), .int .i64 0, .int .i64 0]) ?_ 1 _ rfl; (with_reducible repeat (first | refine blk_drewN ?_ _ | refine blk_drew ?_ | refine blk_alloc ?_ _)); refine blk_put (cs := #[.int .i64 0, .string (⟨#[]⟩ : ByteArray), .int .i64 0, .int .i64 0]) ?_ 0 _ rfl; (with_reducible repeat (first | refine blk_drewN ?_ _ | refine blk_drew ?_ | refine blk_alloc ?_ _)); exact BK135.out) Tryd.underlying32 rfl (by kernel_rfl)) rfl ?_
                    exact ⟨by first | rfl | (simp [errW_none, errW_some] <;> rfl) | (simp [*, errW_none, errW_some] <;> rfl), by repeat (first | (with_reducible first | exact HB.out | apply below_alloc | apply pw_below_drewN | apply below_drew1 | refine below_set ?_ GE135.out) | exact HB.out)⟩
                  · replace c76 := Bool.eq_false_iff.mpr c76
                    subst c76
                    have H1 : (some (0, (⟨#[]⟩ : ByteArray), 0, 0, 0)) = some (r1, r2, r3, r4, r5) := by rw [if_neg (show ¬ (false = true) by decide)] at H; exact H
                    clear H
                    have H := H1
                    clear H1
                    simp only [Option.some.injEq, Prod.mk.injEq] at H
                    obtain ⟨rfl, rfl, rfl, rfl, rfl⟩ := H
                    go_enter Tryd.func13, Tryd.ntmps13
                    go_wp2_with (first | ((with_reducible refine gate_dst (N := 2) rfl ?_); refine box_event ?hg (N := 2) ?hd (cs := #[.int .i64 0, .string (⟨#[]⟩ : ByteArray), .int .i64 0, .int .i64 0]) (t := 32) ?hr ?_; (case hd => rfl); (case hg => rfl); (case hr => first | (go_simp; done) | (go_simp; rfl)); intro gb135 hg w82 hbox hb; have n0_ := Aside0.mk (below_step (by repeat (first | (with_reducible first | exact HB.out | apply below_alloc | apply pw_below_drewN | apply below_drew1) | exact HB.out)) hb); have n1_ := Aside0.mk (hbox); have n2_ := Aside0.mk ((by rw [hg]; exact (below_size (by repeat (first | (with_reducible first | exact HB.out | apply below_alloc | apply pw_below_drewN | apply below_drew1) | exact HB.out))) : w.heap.size ≤ gb135)); have n3_ := Aside0.mk ((by rw [hg]; exact (below_size (by repeat (first | (with_reducible first | exact HB.out | apply below_alloc | apply pw_below_drewN | apply below_drew1) | exact HB.out))) : w.heap.size ≤ gb135)); clear HB; have HB := n0_; have BK135 := n1_; have GW135 := n2_; have GE135 := n3_; clear n0_ n1_ n2_ n3_; clear hb hbox hg; have p3 : 0 ≤ (0 : Int) := (by omega); have q3 : 0 < a0.size := (by have : (0 : Int) < (a0.size : Int) := of_decide_eq_true (by first | (with_reducible assumption) | assumption); omega); have hx3 : ∀ h : 0 < a0.size, ((a0[0]'h).toNat : Int) = bt a0 0 := bt_at a0 0; clear p3; have qi3 : (0 < (a0.size : Int)) = True := eq_true (of_decide_eq_true (by first | (with_reducible assumption) | assumption)); replace q3 := eq_true q3) | ((with_reducible refine gate_callee (f := 20) rfl ?_); refine goesL_ (some 19) rfl rfl Tryd.func20 (by kernel_rfl) rfl #[.int .u8 (bt a0 0)] rfl (by (try simp only [List.map_toArray, List.map_cons, List.map_nil]); first | done | rfl | (simp only [List.length_drop, List.length_take]; rfl)) ?_; (with_reducible refine (lex_letter.calls (bt a0 0) false _ A4.out).mono ?_); rintro e w' ⟨rfl, ⟨nd, rfl⟩⟩; refine ⟨_, rfl, ?_⟩; (try (rw [drewN_self w82]; generalize hq_ : World.drewN w82 _ = w82; have n0_ : Aside0 (w82.heap[gb135]? = some (.cells #[.int .i64 0, .string (⟨#[]⟩ : ByteArray), .int .i64 0, .int .i64 0] 32 (0, 0))) := ⟨by rw [← hq_]; exact (by (with_reducible repeat (first | refine blk_drewN ?_ _ | refine blk_drew ?_ | refine blk_alloc ?_ _)); exact BK135.out)⟩; have n1_ : Aside0 (Below w.heap.size w w82) := ⟨by rw [← hq_]; exact (by repeat (first | (with_reducible first | exact HB.out | apply below_alloc | apply pw_below_drewN | apply below_drew1 | refine below_set ?_ GE135.out) | exact HB.out))⟩; clear BK135 HB hq_; have BK135 := n0_; have HB := n1_; clear n0_ n1_))) | ((with_reducible refine gate_callee (f := 23) rfl ?_); refine goesL_ (some 35) rfl rfl Tryd.func23 (by kernel_rfl) rfl #[.int .u8 (bt a0 0)] rfl (by (try simp only [List.map_toArray, List.map_cons, List.map_nil]); first | done | rfl | (simp only [List.length_drop, List.length_take]; rfl)) ?_; (with_reducible refine (lex_digit.calls (bt a0 0) false _ A19.out).mono ?_); rintro e w' ⟨rfl, ⟨nd, rfl⟩⟩; refine ⟨_, rfl, ?_⟩; (try (rw [drewN_self w82]; generalize hq_ : World.drewN w82 _ = w82; have n0_ : Aside0 (w82.heap[gb135]? = some (.cells #[.int .i64 0, .string (⟨#[]⟩ : ByteArray), .int .i64 0, .int .i64 0] 32 (0, 0))) := ⟨by rw [← hq_]; exact (by (with_reducible repeat (first | refine blk_drewN ?_ _ | refine blk_drew ?_ | refine blk_alloc ?_ _)); exact BK135.out)⟩; have n1_ : Aside0 (Below w.heap.size w w82) := ⟨by rw [← hq_]; exact (by repeat (first | (with_reducible first | exact HB.out | apply below_alloc | apply pw_below_drewN | apply below_drew1 | refine below_set ?_ GE135.out) | exact HB.out))⟩; clear BK135 HB hq_; have BK135 := n0_; have HB := n1_; clear n0_ n1_))) | ((with_reducible refine gate_callee (f := 21) rfl ?_); refine goesL_ (some 92) rfl rfl Tryd.func21 (by kernel_rfl) rfl #[.string (a0.extract 1 a0.size)] rfl (by (try simp only [List.map_toArray, List.map_cons, List.map_nil]); first | done | rfl | (simp only [List.length_drop, List.length_take]; rfl)) ?_; (with_reducible refine (lex_run.calls k (a0.extract 1 a0.size) t150 _ A72.out).mono ?_); rintro e w' ⟨rfl, ⟨nd, rfl⟩⟩; refine ⟨_, rfl, ?_⟩; (try (rw [drewN_self w82]; generalize hq_ : World.drewN w82 _ = w82; have n0_ : Aside0 (w82.heap[gb135]? = some (.cells #[.int .i64 0, .string (⟨#[]⟩ : ByteArray), .int .i64 0, .int .i64 0] 32 (0, 0))) := ⟨by rw [← hq_]; exact (by (with_reducible repeat (first | refine blk_drewN ?_ _ | refine blk_drew ?_ | refine blk_alloc ?_ _)); exact BK135.out)⟩; have n1_ : Aside0 (Below w.heap.size w w82) := ⟨by rw [← hq_]; exact (by repeat (first | (with_reducible first | exact HB.out | apply below_alloc | apply pw_below_drewN | apply below_drew1 | refine below_set ?_ GE135.out) | exact HB.out))⟩; clear BK135 HB hq_; have BK135 := n0_; have HB := n1_; clear n0_ n1_))) | ((with_reducible refine gate_callee (f := 22) rfl ?_); refine goesL_ (some 97) rfl rfl Tryd.func22 (by kernel_rfl) rfl #[.string (a0.extract 1 ((wrap64 (1 + t150)) : Int).toNat)] rfl (by (try simp only [List.map_toArray, List.map_cons, List.map_nil]); first | done | rfl | (simp only [List.length_drop, List.length_take]; rfl)) ?_; (with_reducible refine (value_Name.calls (a0.extract 1 ((wrap64 (1 + t150)) : Int).toNat) false _ A75.out).mono ?_); rintro e w83 ⟨rfl, hb⟩; refine ⟨_, rfl, ?_⟩; have n0_ := Aside0.mk (blk_below (g := gb135) (o := .cells #[.int .i64 0, .string (⟨#[]⟩ : ByteArray), .int .i64 0, .int .i64 0] 32 (0, 0)) (by (with_reducible repeat (first | refine blk_drewN ?_ _ | refine blk_drew ?_ | refine blk_alloc ?_ _)); exact BK135.out) hb); have n1_ := Aside0.mk (below_step (by repeat (first | (with_reducible first | exact HB.out | apply below_alloc | apply pw_below_drewN | apply below_drew1 | refine below_set ?_ GE135.out) | exact HB.out)) hb); clear BK135; clear HB; have BK135 := n0_; have HB := n1_; clear n0_ n1_; (try clear hb); (try clear hb2); (try clear hk); (try clear hi); have hcz84_0 : w83.cell? ⟨gb135, 0, none⟩ = some (.int .i64 0) := (blk_cell BK135.out 0).trans rfl; have hcz84_1 : w83.cell? ⟨gb135, 1, none⟩ = some (.string (⟨#[]⟩ : ByteArray)) := (blk_cell BK135.out 1).trans rfl; have hcz84_2 : w83.cell? ⟨gb135, 2, none⟩ = some (.int .i64 0) := (blk_cell BK135.out 2).trans rfl; have hcz84_3 : w83.cell? ⟨gb135, 3, none⟩ = some (.int .i64 0) := (blk_cell BK135.out 3).trans rfl; have hfz84_0 := blk_frozen BK135.out 0; have hfz84_1 := blk_frozen BK135.out 1; have hfz84_2 := blk_frozen BK135.out 2; have hfz84_3 := blk_frozen BK135.out 3))
                    refine bodyPost_ret (results_ct rfl _ _ gb135 32 #[.int .i64 0, .string (⟨#[]⟩ : ByteArray), .int .i64 0, .int .i64 0] (0, 0) _ rfl (by (with_reducible repeat (first | refine blk_drewN ?_ _ | refine blk_drew ?_ | refine blk_alloc ?_ _)); refine blk_put (cs := #[.int .i64 0, .string (⟨#[]⟩ : ByteArray), .int .i64 0, .int .i64 0]) ?_ 3 _ rfl; (with_reducible repeat (first | refine blk_drewN ?_ _ | refine blk_drew ?_ | refine blk_alloc ?_ _)); refine blk_put (cs := #[.int .i64 0, .string (⟨#[]⟩ : ByteArray), .int .i64 0, .int .i64 0]) ?_ 2 _ rfl; (with_reducible repeat (first | refine blk_drewN ?_ _ | refine blk_drew ?_ | refine blk_alloc ?_ _)); refine blk_put (cs := #[.int .i64 0, .string (⟨#[]⟩ : ByteArray), .int .i64 0, .int .i64 0]) ?_ 1 _ rfl; (with_reducible repeat (first | refine blk_drewN ?_ _ | refine blk_drew ?_ | refine blk_alloc ?_ _)); refine blk_put (cs := #[.int .i64 0, .string (⟨#[]⟩ : ByteArray), .int .i64 0, .int .i64 0]) ?_ 0 _ rfl; (with_reducible repeat (first | refine blk_drewN ?_ _ | refine blk_drew ?_ | refine blk_alloc ?_ _)); exact BK135.out) Tryd.underlying32 rfl (by kernel_rfl)) rfl ?_
                    exact ⟨by first | rfl | (simp [errW_none, errW_some] <;> rfl) | (simp [*, errW_none, errW_some] <;> rfl), by repeat (first | (with_reducible first | exact HB.out | apply below_alloc | apply pw_below_drewN | apply below_drew1 | refine below_set ?_ GE135.out) | exact HB.out)⟩
                · rw [if_neg c74] at H
                  exact absurd H (by simp)
              · rw [if_neg c73] at H
                exact absurd H (by simp)
            · rw [if_neg c71] at H
              exact absurd H (by simp)
          · rw [if_neg c70] at H
            have c70b0 : ((bt a0 0) == 39) = false := beq_eq_false_iff_ne.mpr c70
            have c70b1 : ((bt a0 0) != 39) = true := bne_iff_ne.mpr c70
            exact lex_token.signs a0 r1 r2 r3 r4 r5 w HT.out (of_decide_eq_true c2b0) A4.out A19.out c61 c70 (Option.some.inj H)
  · rw [if_neg c2] at H
    exact absurd H (by simp)
end Go.Proofs.YtdjcechogbcdnaaDoor.XL
namespace Go.Proofs.YtdjcechogbcdnaaDoor.XL
open Go.RowKit Go.Proofs.YtdjcechogbcdnaaDoorW.PrintWords Go.Proofs.YtdjcechogbcdnaaDoorW.PrintLast Go.Proofs.YtdjcechogbcdnaaDoorW.PrintMore
set_option linter.unusedVariables false
set_option linter.unusedSimpArgs false
theorem mk_data (s : ByteArray) : mk s.data.toList = s := by apply ByteArray.ext; simp [mk]
theorem mkd (l : List UInt8) : (mk l).data.toList = l := by simp [mk]
theorem bt_mk {l : List UInt8} {i : Nat} (h : i < l.length) : bt (mk l) (i : Int) = (l[i].toNat : Int) := by
  have h2 : i < (mk l).size := by rw [mk_size]; exact h
  unfold bt
  simp only [Int.toNat_natCast]
  rw [dif_pos h2]
  rfl
theorem mk_ext (l : List UInt8) (a b : Nat) : (mk l).extract a b = mk ((l.take b).drop a) := by
  apply ByteArray.ext
  apply Array.toList_inj.1
  simp [mk, List.drop_take, List.extract_eq_take_drop]
theorem mk_drop (l : List UInt8) (a n : Nat) (h : l.length ≤ n) : (mk l).extract a n = mk (l.drop a) := by
  rw [mk_ext, List.take_of_length_le h]
theorem mk_take (l : List UInt8) (b : Nat) : (mk l).extract 0 b = mk (l.take b) := by
  rw [mk_ext, List.drop_zero]
theorem w_id {x : Int} (h0 : 0 ≤ x) (h1 : x ≤ 9223372036854775807) : wrap64 x = x := by unfold wrap64; omega
def nums (u : List UInt8) : List Int := u.map fun b => (b.toNat : Int)
theorem str_nums (u : List UInt8) : strOfNums (nums u) = mk u := by
  simp [strOfNums, nums, mk, Function.comp_def]
theorem nums_len (u : List UInt8) : (nums u).length = u.length := by simp [nums]
theorem nums_snoc (u : List UInt8) (c : UInt8) : nums u ++ [(c.toNat : Int)] = nums (u ++ [c]) := by simp [nums]
def blankC (c : UInt8) : Bool := c == 9 || c == 10 || c == 13 || c == 32
/-- How many bytes of blanks stand at the front; true: within a comment. -/
def bm : Bool → List UInt8 → Nat
  | _, [] => 0
  | false, c :: r => if blankC c = true then 1 + bm false r else if c = 47 ∧ r.head? = some 47 then 1 + bm true r else 0
  | true, c :: r => if c = 10 then 1 + bm false r else 1 + bm true r
def digC (c : UInt8) : Bool := decide (48 ≤ c.toNat ∧ c.toNat ≤ 57)
def letC (c : UInt8) : Bool := decide (97 ≤ c.toNat ∧ c.toNat ≤ 122) || decide (65 ≤ c.toNat ∧ c.toNat ≤ 90)
def wordC (c : UInt8) : Bool := letC c || digC c || c == 95
def nameL (l : List UInt8) : Bool := nameB (mk l)
def prt (t : List UInt8) : List UInt8 := 34 :: (t.flatMap enc ++ [34])
/-- A token: its kind, text, number, and how many bytes it has. -/
abbrev Tk := Int × List UInt8 × Int × Nat
def wordTk (kind : Int) (w : List UInt8) (n : Nat) : Option Tk := if nameL w = true then some (kind, w, 0, n) else none
def numTk (w : List UInt8) : Option Tk := if valD w < 9223372036854775808 ∧ ¬ (1 < w.length ∧ w.head? = some 48) then some (2, w, (valD w : Int), w.length) else none
def signTk (l : List UInt8) : Option Tk := (signL.find? (fun z => z.isPrefixOf l)).map fun z => (5, z, 0, z.length)
open Classical in
noncomputable def textTk (l : List UInt8) : Option Tk := if h : ∃ t : List UInt8, t.length ≤ 64 ∧ prt t <+: l then some (3, h.choose, 0, (prt h.choose).length) else none
/-- The token at the front. -/
noncomputable def tokL : List UInt8 → Option Tk
  | [] => none
  | c :: r =>
    if letC c = true then wordTk 1 ((c :: r).takeWhile wordC) ((c :: r).takeWhile wordC).length
    else if digC c = true then numTk ((c :: r).takeWhile digC)
    else if c = 34 then textTk (c :: r)
    else if c = 39 then wordTk 4 (r.takeWhile wordC) (1 + (r.takeWhile wordC).length)
    else signTk (c :: r)
def tokRes : Option Tk → Int × ByteArray × Int × Int × Int
  | some (k, t, v, n) => (k, mk t, v, 0, (n : Int))
  | none => (0, (⟨#[]⟩ : ByteArray), 0, 0, 0)
theorem prt_inj {t u l : List UInt8} (h : prt t <+: l) (h2 : prt u <+: l) : t = u := by
  obtain ⟨x, hx⟩ := h
  obtain ⟨y, hy⟩ := h2
  rw [← hy] at hx
  unfold prt at hx
  simp only [List.cons_append, List.append_assoc, List.singleton_append, List.cons.injEq, true_and] at hx
  exact (body_inj t u _ _ (by simpa using hx)).1
theorem textTk_some {l : List UInt8} {t : List UInt8} (h1 : t.length ≤ 64) (h2 : prt t <+: l) : textTk l = some (3, t, 0, (prt t).length) := by
  have h : ∃ t : List UInt8, t.length ≤ 64 ∧ prt t <+: l := ⟨t, h1, h2⟩
  unfold textTk
  rw [dif_pos h, prt_inj h.choose_spec.2 h2]
theorem textTk_none {l : List UInt8} (h : ∀ t : List UInt8, t.length ≤ 64 → ¬ prt t <+: l) : textTk l = none := by
  unfold textTk
  rw [dif_neg]
  rintro ⟨t, h1, h2⟩
  exact h t h1 h2
theorem textTk_is {l : List UInt8} {x : Tk} (h : textTk l = some x) : ∃ t : List UInt8, t.length ≤ 64 ∧ prt t <+: l ∧ x = (3, t, 0, (prt t).length) := by
  unfold textTk at h
  split at h
  · rename_i he
    exact ⟨he.choose, he.choose_spec.1, he.choose_spec.2, (Option.some.inj h).symm⟩
  · cases h
theorem u8_lt (c : UInt8) : c.toNat < 256 := c.toNat_lt
theorem c_ne {c : UInt8} {n : Nat} (h : c ≠ UInt8.ofNat n) (hn : n < 256) : (c.toNat : Int) ≠ (n : Int) := by
  intro e
  apply h
  apply UInt8.toNat_inj.1
  rw [UInt8.toNat_ofNat']
  omega
theorem blank_idx : ∀ n : Fin 256, decide (Lib.indexByte [9, 10, 13, 32] (((n.val : Nat) : Int)).toNat.toUInt8 ≥ 0) = blankC (UInt8.ofNat n.val) := by decide +kernel
theorem blank_idx' (c : UInt8) : Lib.indexByte [9, 10, 13, 32] ((c.toNat : Int)).toNat.toUInt8 ≥ 0 ↔ blankC c = true := by
  have := blank_idx ⟨c.toNat, c.toNat_lt⟩
  simp only [UInt8.ofNat_toNat] at this
  rw [← this, decide_eq_true_iff]
/-- A comment up to its line's end. -/
theorem bm_line : ∀ l : List UInt8, (Lib.indexByte l 10 < 0 ∧ bm true l = l.length) ∨ (∃ j : Nat, Lib.indexByte l 10 = (j : Int) ∧ j < l.length ∧ (∃ x, l.drop j = 10 :: x) ∧ bm true l = j + bm false (l.drop j))
  | [] => Or.inl ⟨by decide, rfl⟩
  | c :: r => by
    by_cases h : c = 10
    · subst h
      right
      refine ⟨0, by simp [Lib.indexByte], by simp, ⟨r, rfl⟩, ?_⟩
      simp [bm, blankC]
    · have hb : (c == (10 : UInt8)) = false := by simp [h]
      have ge := Lib.indexByte_ge r 10
      rcases bm_line r with ⟨h1, h2⟩ | ⟨j, h1, h2, h3, h4⟩
      · left
        have e : Lib.indexByte r 10 = -1 := by omega
        simp [Lib.indexByte, hb, e, bm, h, h2]; omega
      · right
        refine ⟨j + 1, ?_, by simp; omega, by simpa using h3, ?_⟩
        · have : ¬ ((j : Int) = -1) := by omega
          simp [Lib.indexByte, hb, h1, this]
        · simp [bm, h, h4]; omega
theorem blanks_loop (l : List UInt8) (hl : l.length ≤ 4611686018427387904) : ∀ d i : Nat, l.length - i ≤ d → i ≤ l.length → Ev (fun k => lex_blanks.l0 k (mk l) (i : Int)) ((i + bm false (l.drop i) : Nat) : Int) := by
  intro d
  induction d with
  | zero =>
    intro i hd hi
    refine Ev.step (fun k => by simp only [lex_blanks.l0]; rfl) ?_
    rw [List.drop_eq_nil_of_le (by omega)]
    refine Ev.neg (by rw [mk_size]; omega) (Ev.val (by simp [bm]))
  | succ d ih =>
    intro i hd hi
    by_cases hlt : i < l.length
    · refine Ev.step (fun k => by simp only [lex_blanks.l0]; rfl) ?_
      have hdr := List.drop_eq_getElem_cons hlt
      generalize hc : l[i] = c at hdr
      rw [bt_mk hlt, hc]
      refine Ev.pos (by rw [mk_size]; omega) (Ev.pos (by omega) ?_)
      refine Ev.bind (a := Lib.indexByte [9, 10, 13, 32] ((c.toNat : Int)).toNat.toUInt8) (Ev.val' rfl) ?_
      by_cases hb : blankC c = true
      · refine Ev.pos ((blank_idx' c).2 hb) ?_
        rw [wr_succ hlt (by omega)]
        have := ih (i + 1) (by omega) (by omega)
        rw [hdr]
        simp only [bm, hb, if_true]
        rw [show i + (1 + bm false (l.drop (i + 1))) = i + 1 + bm false (l.drop (i + 1)) by omega]
        exact this
      · refine Ev.neg (fun h => hb ((blank_idx' c).1 h)) ?_
        have e1 : (mk l).extract ((i : Int)).toNat (mk l).size = mk (l.drop i) := by rw [Int.toNat_natCast, mk_drop l i _ (by rw [mk_size]; exact Nat.le_refl _)]
        rw [e1]
        refine Ev.pos (by rw [mk_size]; omega) ?_
        refine Ev.bind (a := ([47, 47] : List UInt8).isPrefixOf (l.drop i)) (Ev.val' (by rw [show (⟨#[47, 47]⟩ : ByteArray) = ⟨([47, 47] : List UInt8).toArray⟩ from rfl, has_prefix, mkd])) ?_
        have hpre : ([47, 47] : List UInt8).isPrefixOf (l.drop i) = decide (c = 47 ∧ (l.drop (i + 1)).head? = some 47) := by
          rw [hdr]
          cases hr : l.drop (i + 1) with
          | nil => simp [List.isPrefixOf]
          | cons x r =>
            rw [Bool.eq_iff_iff]
            simp only [List.isPrefixOf, Bool.and_eq_true, beq_iff_eq, decide_eq_true_eq, List.head?_cons, Option.some.injEq, and_true]
            exact ⟨fun h => ⟨h.1.symm, h.2.symm⟩, fun h => ⟨h.1.symm, h.2.symm⟩⟩
        rw [hpre]
        by_cases hcm : c = 47 ∧ (l.drop (i + 1)).head? = some 47
        · refine Ev.pos (by simp [hcm]) ?_
          refine Ev.bind (a := Lib.indexByte (l.drop i) 10) (Ev.val' (by show some (Lib.indexByte (mk (l.drop i)).data.toList _) = _; rw [mkd]; rfl)) ?_
          have e2 : bm false (l.drop i) = bm true (l.drop i) := by
            rw [hdr]
            have : ¬ (c = 10) := by rw [hcm.1]; decide
            simp only [bm]
            rw [if_neg hb, if_pos hcm, if_neg this]
          rw [e2]
          rcases bm_line (l.drop i) with ⟨h1, h2⟩ | ⟨j, h1, h2, ⟨x, h3⟩, h4⟩
          · refine Ev.pos h1 (Ev.val ?_)
            rw [h2, mk_size, List.length_drop]
            omega
          · rw [List.length_drop] at h2
            refine Ev.neg (by omega) ?_
            have hj : j ≠ 0 := by
              rintro rfl
              rw [List.drop_zero, hdr] at h3
              have := (List.cons.inj h3).1
              rw [hcm.1] at this; exact absurd this (by decide)
            rw [h1, w_id (by omega) (by omega), h4, List.drop_drop]
            have := ih (i + j) (by omega) (by omega)
            rw [show i + (j + bm false (l.drop (i + j))) = i + j + bm false (l.drop (i + j)) by omega]
            exact this
        · refine Ev.neg (by simp only [decide_eq_true_eq]; exact hcm) (Ev.val ?_)
          rw [hdr]
          simp only [bm]
          rw [if_neg hb, if_neg hcm]
          omega
    · refine Ev.step (fun k => by simp only [lex_blanks.l0]; rfl) ?_
      rw [List.drop_eq_nil_of_le (by omega)]
      refine Ev.neg (by rw [mk_size]; omega) (Ev.val (by simp [bm]))
theorem blanks_ev (l : List UInt8) (hl : l.length ≤ 4611686018427387904) : Ev (fun k => lex_blanks.f k (mk l)) ((bm false l : Nat) : Int) := by
  have := blanks_loop l hl l.length 0 (by omega) (by omega)
  simpa [lex_blanks.f] using this
theorem letter_code (c : UInt8) : lex_letter.f (c.toNat : Int) = some (letC c) := by
  unfold lex_letter.f letC
  by_cases h1 : 97 ≤ c.toNat
  · rw [if_pos (by omega)]
    by_cases h2 : c.toNat ≤ 122
    · rw [if_pos (by omega)]; simp [h1, h2]
    · rw [if_neg (by omega), if_pos (by omega)]; congr 1; rw [Bool.eq_iff_iff]; simp; omega
  · rw [if_neg (by omega)]
    by_cases h3 : 65 ≤ c.toNat
    · rw [if_pos (by omega)]; congr 1; rw [Bool.eq_iff_iff]; simp; omega
    · rw [if_neg (by omega)]; congr 1; symm; rw [Bool.eq_false_iff]; simp; omega
theorem digit_code (c : UInt8) : lex_digit.f (c.toNat : Int) = some (digC c) := by
  unfold lex_digit.f digC
  by_cases h1 : 48 ≤ c.toNat
  · rw [if_pos (by omega)]; congr 1; rw [Bool.eq_iff_iff]; simp; omega
  · rw [if_neg (by omega)]; congr 1; symm; rw [Bool.eq_false_iff]; simp; omega
theorem c95 (c : UInt8) : ((c.toNat : Int) = 95) ↔ (c == 95) = true := by
  rw [beq_iff_eq]
  constructor
  · intro h; apply UInt8.toNat_inj.1; show c.toNat = 95; omega
  · rintro rfl; rfl
theorem run_loop (l : List UInt8) (hl : l.length ≤ 4611686018427387904) : ∀ d i : Nat, i + d = l.length → Ev (fun k => lex_run.l0 k (mk l) (i : Int)) ((i + ((l.drop i).takeWhile wordC).length : Nat) : Int) := by
  intro d
  induction d with
  | zero =>
    intro i hd
    refine Ev.step (fun k => by simp only [lex_run.l0]; rfl) ?_
    rw [List.drop_eq_nil_of_le (by omega)]
    refine Ev.neg (by rw [mk_size]; omega) (Ev.val (by simp))
  | succ d ih =>
    intro i hd
    have hlt : i < l.length := by omega
    refine Ev.step (fun k => by simp only [lex_run.l0]; rfl) ?_
    have hdr := List.drop_eq_getElem_cons hlt
    generalize hc : l[i] = c at hdr
    rw [bt_mk hlt, hc, letter_code, digit_code, wr_succ hlt (by omega), hdr]
    refine Ev.pos (by rw [mk_size]; omega) (Ev.pos (by omega) (Ev.bind (Ev.now _) ?_))
    have go : wordC c = true → Ev (fun k => lex_run.l0 k (mk l) ((i + 1 : Nat) : Int)) ((i + ((c :: l.drop (i + 1)).takeWhile wordC).length : Nat) : Int) := by
      intro hw
      rw [List.takeWhile_cons, if_pos hw]
      have := ih (i + 1) (by omega)
      simp only [List.length_cons]
      rw [show i + (((l.drop (i + 1)).takeWhile wordC).length + 1) = i + 1 + ((l.drop (i + 1)).takeWhile wordC).length by omega]
      exact this
    by_cases h1 : letC c = true
    · exact Ev.pos h1 (go (by simp [wordC, h1]))
    · refine Ev.neg h1 (Ev.bind (Ev.now _) ?_)
      by_cases h2 : digC c = true
      · exact Ev.pos h2 (go (by simp [wordC, h2]))
      · refine Ev.neg h2 ?_
        by_cases h3 : (c == 95) = true
        · exact Ev.pos ((c95 c).2 h3) (go (by simp only [wordC, h3, Bool.or_true]))
        · refine Ev.neg (fun h => h3 ((c95 c).1 h)) (Ev.val ?_)
          have hw : ¬ wordC c = true := by
            simp only [wordC, Bool.or_eq_true]
            rintro ((h | h) | h)
            · exact h1 h
            · exact h2 h
            · exact h3 h
          rw [List.takeWhile_cons, if_neg hw]
          rfl
theorem run_ev (l : List UInt8) (hl : l.length ≤ 4611686018427387904) : Ev (fun k => lex_run.f k (mk l)) (((l.takeWhile wordC).length : Nat) : Int) := by
  have := run_loop l hl l.length 0 (by omega)
  simpa [lex_run.f] using this
end Go.Proofs.YtdjcechogbcdnaaDoor.XL
namespace Go.Proofs.YtdjcechogbcdnaaDoor.XL
open Go.RowKit Go.Proofs.YtdjcechogbcdnaaDoorW.PrintWords Go.Proofs.YtdjcechogbcdnaaDoorW.PrintLast Go.Proofs.YtdjcechogbcdnaaDoorW.PrintMore
set_option linter.unusedVariables false
set_option linter.unusedSimpArgs false
def valA (acc : Nat) (l : List UInt8) : Nat := l.foldl (fun a c => 10 * a + (c.toNat - 48)) acc
theorem valA_ge : ∀ (l : List UInt8) (acc : Nat), acc ≤ valA acc l
  | [], acc => Nat.le_refl _
  | c :: r, acc => by
    have := valA_ge r (10 * acc + (c.toNat - 48))
    unfold valA at this ⊢
    rw [List.foldl_cons]
    omega
theorem parse_M (M : Nat) (hM : M < 18446744073709551616) : ∀ (l : List UInt8) (acc : Nat), acc ≤ M → (∀ c ∈ l, digC c = true) → Lib.parseUintM M acc l = if valA acc l ≤ M then .ok (valA acc l) else .range
  | [], acc, ha, _ => by
    have : valA acc [] = acc := rfl
    rw [this, if_pos ha]; rfl
  | c :: r, acc, ha, h => by
    have hc := h c List.mem_cons_self
    unfold digC at hc
    rw [decide_eq_true_iff] at hc
    have hv : valA acc (c :: r) = valA (10 * acc + (c.toNat - 48)) r := rfl
    have hge := valA_ge r (10 * acc + (c.toNat - 48))
    rw [hv]
    unfold Lib.parseUintM
    rw [if_pos hc]
    by_cases h1 : 1844674407370955162 ≤ acc
    · rw [if_pos h1, if_neg (by omega)]
    · rw [if_neg h1]
      by_cases h2 : M < acc * 10 + (c.toNat - 48)
      · rw [if_pos h2, if_neg (by omega)]
      · rw [if_neg h2, parse_M M hM r _ (by omega) (fun x hx => h x (List.mem_cons_of_mem _ hx)), Nat.mul_comm acc 10]
theorem parse_digits (l : List UInt8) (hne : l ≠ []) (h : ∀ c ∈ l, digC c = true) : Lib.parseIntB 64 l = if valD l < 9223372036854775808 then .ok (valD l : Int) else .range := by
  obtain ⟨c, r, rfl⟩ := List.exists_cons_of_ne_nil hne
  have hc := h c List.mem_cons_self
  unfold digC at hc
  rw [decide_eq_true_iff] at hc
  have hv : valA 0 (c :: r) = valD (c :: r) := rfl
  have hp := parse_M 18446744073709551615 (by decide) (c :: r) 0 (by decide) h
  rw [hv] at hp
  unfold Lib.parseIntB Lib.parseUintB
  simp only [if_neg (show ¬ (c.toNat = 43 ∨ c.toNat = 45) by omega), if_neg (show ¬ (c :: r = []) by simp), Nat.reducePow, Nat.reduceSub, hp]
  by_cases h1 : valD (c :: r) ≤ 18446744073709551615
  · rw [if_pos h1]
    simp only
    by_cases h2 : valD (c :: r) < 9223372036854775808
    · rw [if_pos h2, if_neg (by omega), if_neg (by omega), if_neg (by omega)]
    · rw [if_neg h2, if_pos (by omega)]
  · rw [if_neg h1, if_neg (by omega)]
def finT (x0 : ByteArray) (x4 x6 : Int) : Option (Int × ByteArray × Int × Int × Int) := (strconv_ParseInt.f (x0.extract 0 (x6 : Int).toNat) 10 64).bind fun bt144 => (if bt144.2.isNone = true then (if x6 > 1 then (if x4 = 48 then (some (0, (⟨#[]⟩ : ByteArray), 0, 0, 0)) else (some (2, x0.extract 0 (x6 : Int).toNat, bt144.1, 0, x6))) else (some (2, x0.extract 0 (x6 : Int).toNat, bt144.1, 0, x6))) else (some (0, (⟨#[]⟩ : ByteArray), 0, 0, 0)))
theorem fin_num (l : List UInt8) (hl : l.length ≤ 8000) (n : Nat) (h0 : 0 < n) (hn : n ≤ l.length) (hd : ∀ c ∈ l.take n, digC c = true) : finT (mk l) (bt (mk l) 0) (n : Int) = some (tokRes (numTk (l.take n))) := by
  have hlen : (l.take n).length = n := by rw [List.length_take]; omega
  have hne : l.take n ≠ [] := by intro e; rw [e] at hlen; simp at hlen; omega
  have hb : (mk l).extract 0 ((n : Int)).toNat = mk (l.take n) := by rw [Int.toNat_natCast, mk_take]
  have h48 : (bt (mk l) 0 = 48) ↔ (l.take n).head? = some 48 := by
    obtain ⟨c, r, rfl⟩ := List.exists_cons_of_ne_nil (show l ≠ [] by rintro rfl; simp at hn; omega)
    have e := bt_mk (l := c :: r) (i := 0) (by simp)
    obtain ⟨m, rfl⟩ : ∃ m, n = m + 1 := ⟨n - 1, by omega⟩
    have e' : bt (mk (c :: r)) 0 = (c.toNat : Int) := e
    rw [e']
    simp only [List.take_succ_cons, List.head?_cons, Option.some.injEq]
    constructor
    · intro h; apply UInt8.toNat_inj.1; show c.toNat = 48; omega
    · rintro rfl; rfl
  unfold finT strconv_ParseInt.f numTk
  rw [hb, if_pos rfl, if_pos rfl, if_pos (by rw [mk_size]; omega), mkd, parse_digits _ hne hd]
  by_cases hv : valD (l.take n) < 9223372036854775808
  · rw [if_pos hv]
    simp only [Option.bind_some, Option.isNone_none, if_true]
    by_cases h1 : 1 < n
    · rw [if_pos (by omega)]
      by_cases hz : bt (mk l) 0 = 48
      · rw [if_pos hz, if_neg (by rw [hlen]; exact fun h => h.2 ⟨h1, h48.1 hz⟩)]
        rfl
      · rw [if_neg hz, if_pos (by rw [hlen]; exact ⟨hv, fun h => hz (h48.2 h.2)⟩)]
        simp only [tokRes, hlen]
    · rw [if_neg (by omega), if_pos (by rw [hlen]; exact ⟨hv, fun h => h1 h.1⟩)]
      simp only [tokRes, hlen]
  · rw [if_neg hv, if_neg (fun h => hv h.1)]
    simp [tokRes]
theorem digits_loop (l : List UInt8) (hl : l.length ≤ 8000) (n : Nat) (hn : n ≤ l.length) (hd : ∀ j (h : j < n), digC (l[j]'(by omega)) = true) (he : ∀ h : n < l.length, digC l[n] = false) (x4 : Int) (R : Int × ByteArray × Int × Int × Int) (hR : finT (mk l) x4 (n : Int) = some R) : ∀ d i : Nat, i + d = n → Ev (fun k => lex_token.l0 k (mk l) x4 (i : Int)) R := by
  intro d
  induction d with
  | zero =>
    intro i hi
    obtain rfl : i = n := by omega
    refine Ev.step (fun k => by simp only [lex_token.l0]; rfl) ?_
    by_cases hlt : i < l.length
    · rw [bt_mk hlt, digit_code, he hlt]
      refine Ev.pos (by rw [mk_size]; omega) (Ev.pos (by omega) (Ev.bind (Ev.now _) (Ev.neg (by simp) (Ev.pos (by rw [mk_size]; omega) ?_))))
      exact Ev.val' hR
    · refine Ev.neg (by rw [mk_size]; omega) (Ev.pos (by omega) (Ev.pos (by rw [mk_size]; omega) ?_))
      exact Ev.val' hR
  | succ d ih =>
    intro i hi
    have hlt : i < l.length := by omega
    refine Ev.step (fun k => by simp only [lex_token.l0]; rfl) ?_
    rw [bt_mk hlt, digit_code, hd i (by omega), wr_succ hlt (by omega)]
    exact Ev.pos (by rw [mk_size]; omega) (Ev.pos (by omega) (Ev.bind (Ev.now _) (Ev.pos rfl (ih (i + 1) (by omega)))))
theorem tw_le {p : UInt8 → Bool} (l : List UInt8) : (l.takeWhile p).length ≤ l.length := (List.takeWhile_prefix p).length_le
theorem tw_take {p : UInt8 → Bool} (l : List UInt8) : l.take (l.takeWhile p).length = l.takeWhile p := (List.prefix_iff_eq_take.1 (List.takeWhile_prefix p)).symm
theorem tw_all {p : UInt8 → Bool} : ∀ (l : List UInt8), ∀ c ∈ l.takeWhile p, p c = true
  | [], c, h => by cases h
  | d :: l, c, h => by
    rw [List.takeWhile_cons] at h
    split at h
    · rename_i hp
      rcases List.mem_cons.1 h with rfl | h
      · exact hp
      · exact tw_all l c h
    · cases h
theorem tw_in {p : UInt8 → Bool} (l : List UInt8) (j : Nat) (h : j < (l.takeWhile p).length) : p (l[j]'(by have := tw_le (p := p) l; omega)) = true := by
  have e : (l.takeWhile p)[j] = l[j]'(by have := tw_le (p := p) l; omega) := (List.takeWhile_prefix p).getElem h
  rw [← e]
  exact tw_all l _ (List.getElem_mem h)
theorem tw_end {p : UInt8 → Bool} : ∀ (l : List UInt8) (h : (l.takeWhile p).length < l.length), p l[(l.takeWhile p).length] = false
  | [], h => by simp at h
  | d :: l, h => by
    by_cases hp : p d = true
    · simp only [List.takeWhile_cons, if_pos hp, List.length_cons] at h ⊢
      exact tw_end l (by omega)
    · simp only [List.takeWhile_cons, if_neg hp, List.length_nil]
      simpa using hp
theorem digits_ev (l : List UInt8) (hl : l.length ≤ 8000) (h0 : 0 < (l.takeWhile digC).length) : Ev (fun k => lex_token.l0 k (mk l) (bt (mk l) 0) 0) (tokRes (numTk (l.takeWhile digC))) := by
  have := digits_loop l hl (l.takeWhile digC).length (tw_le l) (fun j h => tw_in l j h) (fun h => tw_end l h) (bt (mk l) 0) _ (fin_num l hl _ h0 (tw_le l) (by rw [tw_take]; exact tw_all l)) (l.takeWhile digC).length 0 (by omega)
  rw [tw_take] at this
  exact this
theorem mkT (l : List UInt8) : (mk l).toList = l := mkS_toList l
theorem printL_text (t : List UInt8) : printL 3 0 (mk t) [] = prt t := by
  unfold printL
  rw [if_neg (by decide), if_neg (by decide), if_pos rfl, quoted_bytes, mkd]; rfl
theorem print_text (t : List UInt8) (h : t.length ≤ 64) : Ev (fun k => value_Print.f k 3 0 (mk t) []) (mk (prt t)) := by
  have := print_ev 3 0 (mk t) [] (by simp [rightB, mk_size, h]) (by decide) (by decide) (fun x hx => by cases hx)
  rw [printL_text] at this
  exact this
theorem bt_drop {l Y : List UInt8} {i : Nat} {c : UInt8} (h : l.drop i = c :: Y) : i < l.length ∧ bt (mk l) (i : Int) = (c.toNat : Int) := by
  have hi : i < l.length := by
    have := congrArg List.length h
    rw [List.length_drop, List.length_cons] at this; omega
  refine ⟨hi, ?_⟩
  rw [bt_mk hi]
  rw [List.drop_eq_getElem_cons hi] at h
  rw [(List.cons.inj h).1]
theorem drop_next {l Y : List UInt8} {i : Nat} {c : UInt8} (h : l.drop i = c :: Y) : l.drop (i + 1) = Y := by
  rw [← List.drop_drop, h]; rfl
theorem pre_x {l Y : List UInt8} {i : Nat} {c d : UInt8} (h : l.drop i = c :: d :: Y) : strings_HasPrefix.f ((mk l).extract ((i : Int)).toNat (mk l).size) (⟨#[92, 120]⟩ : ByteArray) = some (decide (c = 92 ∧ d = 120)) := by
  rw [Int.toNat_natCast, mk_drop l i _ (by rw [mk_size]; exact Nat.le_refl _), show (⟨#[92, 120]⟩ : ByteArray) = ⟨([92, 120] : List UInt8).toArray⟩ from rfl, has_prefix, mkd, h]
  congr 1
  rw [Bool.eq_iff_iff]
  simp only [List.isPrefixOf, Bool.and_eq_true, beq_iff_eq, decide_eq_true_eq, and_true]
  exact ⟨fun h => ⟨h.1.symm, h.2.symm⟩, fun h => ⟨h.1.symm, h.2.symm⟩⟩
theorem pre_x1 {l : List UInt8} {i : Nat} {c : UInt8} (h : l.drop i = [c]) : strings_HasPrefix.f ((mk l).extract ((i : Int)).toNat (mk l).size) (⟨#[92, 120]⟩ : ByteArray) = some false := by
  rw [Int.toNat_natCast, mk_drop l i _ (by rw [mk_size]; exact Nat.le_refl _), show (⟨#[92, 120]⟩ : ByteArray) = ⟨([92, 120] : List UInt8).toArray⟩ from rfl, has_prefix, mkd, h]
  simp [List.isPrefixOf]
theorem hex_hx : ∀ n : Fin 16, hexD ((hx n.val).toNat : Int) = some ((n.val : Nat) : Int) := by decide +kernel
theorem parse_two (l Y : List UInt8) (i : Nat) (a b : UInt8) (h : l.drop i = a :: b :: Y) : strconv_ParseUint.f ((mk l).extract ((i : Int)).toNat (((i + 2 : Nat) : Int)).toNat) 16 8 = (match hexD (a.toNat : Int) with | none => some (0, some 0) | some x => match hexD (b.toNat : Int) with | none => some (0, some 0) | some y => some (16 * x + y, none)) := by
  rw [Int.toNat_natCast, Int.toNat_natCast, mk_ext]
  have e : (l.take (i + 2)).drop i = [a, b] := by
    rw [List.drop_take, h, show i + 2 - i = 2 by omega]; rfl
  rw [e]
  rfl
/-- One step of the text's loop over a byte that is no quote, and no spelled-out one. -/
theorem text_plain {l : List UInt8} (hl : l.length ≤ 8000) {v : List UInt8} {i : Nat} {c : UInt8} {R : Int × ByteArray × Bool} (hv : v.length ≤ i) (hi : i < l.length) (h92 : c ≠ 92) (hn : Ev (fun k => lex_text.l0 k (mk l) (nums (v ++ [c])) ((i + 1 : Nat) : Int)) R) : Ev (fun k => lex_text.j1 k (mk l) (nums v) (i : Int) (c.toNat : Int) false) R := by
  refine Ev.step (fun k => by simp only [lex_text.j1]; rfl) (Ev.neg (by simp) (Ev.neg (c_ne h92 (by decide)) (Ev.pos (by rw [nums_len]; omega) ?_)))
  rw [nums_snoc, wr_succ hi (by omega)]
  exact hn
theorem text_esc {l : List UInt8} (hl : l.length ≤ 8000) {v Y : List UInt8} {i : Nat} {d : UInt8} {R : Int × ByteArray × Bool} (hv : v.length ≤ i) (h : l.drop (i + 1) = d :: Y) (hn : Ev (fun k => lex_text.l0 k (mk l) (nums (v ++ [d])) ((i + 2 : Nat) : Int)) R) : Ev (fun k => lex_text.j1 k (mk l) (nums v) (i : Int) 92 false) R := by
  obtain ⟨h1, h2⟩ := bt_drop h
  have e1 : wrap64 ((i : Int) + 1) = ((i + 1 : Nat) : Int) := wr_succ (show i < l.length by omega) (by omega)
  have e2 : wrap64 (((i + 1 : Nat) : Int) + 1) = ((i + 2 : Nat) : Int) := wr_succ h1 (by omega)
  refine Ev.step (fun k => by simp only [lex_text.j1]; rfl) ?_
  rw [e1, h2, e2, nums_snoc]
  exact Ev.neg (by simp) (Ev.pos (by trivial) (Ev.pos (by rw [mk_size]; omega) (Ev.pos (by omega) (Ev.pos (by rw [nums_len]; omega) hn))))
theorem text_hex {l : List UInt8} (hl : l.length ≤ 8000) {v Y : List UInt8} {i : Nat} {c a b : UInt8} {R : Int × ByteArray × Bool} (hv : v.length ≤ i) (h : l.drop (i + 2) = a :: b :: Y) (hc : ∃ x y, hexD (a.toNat : Int) = some x ∧ hexD (b.toNat : Int) = some y ∧ 16 * x + y = (c.toNat : Int)) (hn : Ev (fun k => lex_text.l0 k (mk l) (nums (v ++ [c])) ((i + 4 : Nat) : Int)) R) : Ev (fun k => lex_text.j1 k (mk l) (nums v) (i : Int) 92 true) R := by
  obtain ⟨x, y, hx, hy, hxy⟩ := hc
  have hlen := congrArg List.length h
  rw [List.length_drop, List.length_cons, List.length_cons] at hlen
  have e2 : wrap64 ((i : Int) + 2) = ((i + 2 : Nat) : Int) := by rw [w_id] <;> omega
  have e4 : wrap64 ((i : Int) + 4) = ((i + 2 + 2 : Nat) : Int) := by rw [w_id] <;> omega
  have e3 : wrap64 (wrap64 ((i : Int) + 3) + 1) = ((i + 4 : Nat) : Int) := by rw [w_id (x := (i : Int) + 3) (by omega) (by omega), w_id] <;> omega
  have hp := parse_two l Y (i + 2) a b h
  rw [hx, hy] at hp
  simp only at hp
  refine Ev.step (fun k => by simp only [lex_text.j1]; rfl) ?_
  rw [e2, e4, e3, hp]
  clear e2 e4 e3 hp
  refine Ev.pos (by trivial) (Ev.pos (by omega) (Ev.pos (by omega) (Ev.pos (by rw [mk_size]; omega) (Ev.bind (Ev.now _) (Ev.pos (by trivial) (Ev.pos (by rw [nums_len]; omega) ?_))))))
  have hb : (16 * x + y) % 256 = (c.toNat : Int) := by have := u8_lt c; omega
  simp only [hb, nums_snoc]
  exact hn
theorem text_bad {l : List UInt8} (hl : l.length ≤ 8000) {v Y : List UInt8} {i : Nat} {a b : UInt8} (h : l.drop (i + 2) = a :: b :: Y) (hc : hexD (a.toNat : Int) = none ∨ hexD (b.toNat : Int) = none) : Ev (fun k => lex_text.j1 k (mk l) (nums v) (i : Int) 92 true) (0, (⟨#[]⟩ : ByteArray), false) := by
  have hlen := congrArg List.length h
  rw [List.length_drop, List.length_cons, List.length_cons] at hlen
  have e2 : wrap64 ((i : Int) + 2) = ((i + 2 : Nat) : Int) := by rw [w_id] <;> omega
  have e4 : wrap64 ((i : Int) + 4) = ((i + 2 + 2 : Nat) : Int) := by rw [w_id] <;> omega
  have hp := parse_two l Y (i + 2) a b h
  have hp' : strconv_ParseUint.f ((mk l).extract (((i + 2 : Nat) : Int)).toNat (((i + 2 + 2 : Nat) : Int)).toNat) 16 8 = some (0, some 0) := by
    rw [hp]
    rcases hc with hc | hc
    · rw [hc]
    · rw [hc]
      cases hexD (a.toNat : Int) <;> rfl
  refine Ev.step (fun k => by simp only [lex_text.j1]; rfl) ?_
  rw [e2, e4, hp']
  clear e2 e4 hp hp'
  exact Ev.pos (by trivial) (Ev.pos (by omega) (Ev.pos (by omega) (Ev.pos (by rw [mk_size]; omega) (Ev.bind (Ev.now _) (Ev.neg (by simp) (Ev.now _))))))
/-- At a quote. -/
theorem text_quote {l Y : List UInt8} (hl : l.length ≤ 8000) {v : List UInt8} {i : Nat} (h : l.drop i = 34 :: Y) : Ev (fun k => lex_text.l0 k (mk l) (nums v) (i : Int)) (((i + 1 : Nat) : Int), mk v, decide (v.length ≤ 64) && (prt v == l.take (i + 1))) := by
  obtain ⟨hi, hb⟩ := bt_drop h
  refine Ev.step (fun k => by simp only [lex_text.l0]; rfl) ?_
  rw [hb, wr_succ hi (by omega), str_nums]
  refine Ev.pos (by rw [mk_size]; omega) (Ev.pos (by omega) (Ev.pos rfl ?_))
  by_cases h64 : v.length ≤ 64
  · refine Ev.pos (by rw [mk_size]; omega) (Ev.bind (print_text v h64) (Ev.pos (by omega) (Ev.pos (by rw [mk_size]; omega) (Ev.val ?_))))
    rw [Int.toNat_natCast, mk_take, mkT, mkT]
    simp [h64]
  · refine Ev.neg (by rw [mk_size]; omega) (Ev.val ?_)
    simp [h64]
theorem text_good (t rest : List UInt8) (ht : t.length ≤ 64) (hl : (prt t ++ rest).length ≤ 8000) : ∀ (u v : List UInt8), v ++ u = t → Ev (fun k => lex_text.l0 k (mk (prt t ++ rest)) (nums v) ((1 + (v.flatMap enc).length : Nat) : Int)) (((prt t).length : Int), mk t, true) := by
  intro u
  induction u with
  | nil =>
    intro v hv
    rw [List.append_nil] at hv
    subst hv
    have hd : (prt v ++ rest).drop (1 + (v.flatMap enc).length) = 34 :: rest := by
      unfold prt
      rw [Nat.add_comm, List.cons_append, List.drop_succ_cons, List.append_assoc, List.drop_left]; rfl
    have := text_quote hl (v := v) hd
    have hp : (prt v).length = 1 + (v.flatMap enc).length + 1 := by simp [prt]; omega
    rw [← hp, List.take_left] at this
    simpa [ht] using this
  | cons c u ih =>
    intro v hv
    have next := ih (v ++ [c]) (by simpa using hv)
    have hd : (prt t ++ rest).drop (1 + (v.flatMap enc).length) = enc c ++ (u.flatMap enc ++ 34 :: rest) := by
      unfold prt
      rw [← hv, Nat.add_comm, List.cons_append, List.drop_succ_cons, List.flatMap_append, List.flatMap_cons, List.append_assoc, List.append_assoc, List.drop_left]
      simp
    have hfl : ((v ++ [c]).flatMap enc).length = (v.flatMap enc).length + (enc c).length := by simp
    have hvl : ∀ w : List UInt8, w.length ≤ (w.flatMap enc).length := by
      intro w
      induction w with
      | nil => simp
      | cons x w ihw =>
        have : 1 ≤ (enc x).length := by rcases enc_is x with ⟨h, _⟩ | ⟨h, _⟩ | ⟨h, _⟩ <;> rw [h] <;> simp
        rw [List.flatMap_cons, List.length_append, List.length_cons]; omega
    have hv2 := hvl v
    rw [hfl] at next
    generalize hL : prt t ++ rest = L at hd next hl ⊢
    generalize hI : 1 + (v.flatMap enc).length = i at hd next ⊢
    have hvi : v.length ≤ i := by omega
    rcases enc_is c with ⟨hc, h1, h2⟩ | ⟨hc, h1⟩ | ⟨hc, h1, h2⟩ <;> rw [hc] at hd next <;> simp only [List.cons_append, List.nil_append, List.length_cons, List.length_nil] at hd next
    · obtain ⟨hi, hb⟩ := bt_drop hd
      refine Ev.step (fun k => by simp only [lex_text.l0]; rfl) ?_
      rw [hb]
      refine Ev.pos (by rw [mk_size]; omega) (Ev.pos (by omega) (Ev.neg (c_ne h2 (by decide)) (Ev.neg (c_ne h1 (by decide)) ?_)))
      exact text_plain hl hvi hi h1 (by rw [← hI]; exact next)
    · obtain ⟨hi, hb⟩ := bt_drop hd
      refine Ev.step (fun k => by simp only [lex_text.l0]; rfl) ?_
      rw [hb, pre_x hd]
      refine Ev.pos (by rw [mk_size]; omega) (Ev.pos (by omega) (Ev.neg (by decide) (Ev.pos rfl (Ev.pos (by rw [mk_size]; omega) (Ev.bind (Ev.now _) (Ev.neg (by simp [h1]) ?_))))))
      exact text_esc hl hvi (drop_next hd) (by rw [← hI]; exact next)
    · obtain ⟨hi, hb⟩ := bt_drop hd
      have hd2 : L.drop (i + 2) = hx (c.toNat / 16) :: hx (c.toNat % 16) :: (u.flatMap enc ++ 34 :: rest) := drop_next (drop_next hd)
      have hlen := congrArg List.length hd
      rw [List.length_drop] at hlen
      simp only [List.length_cons, List.length_append] at hlen
      refine Ev.step (fun k => by simp only [lex_text.l0]; rfl) ?_
      rw [hb, pre_x hd, w_id (x := (i : Int) + 3) (by omega) (by omega)]
      refine Ev.pos (by rw [mk_size]; omega) (Ev.pos (by omega) (Ev.neg (by decide) (Ev.pos rfl (Ev.pos (by rw [mk_size]; omega) (Ev.bind (Ev.now _) (Ev.pos (by simp) ?_))))))
      rw [show decide ((i : Int) + 3 < ((mk L).size : Int)) = true from decide_eq_true (by rw [mk_size]; omega)]
      have q1 := u8_lt c
      exact text_hex (c := c) hl hvi hd2 ⟨_, _, hex_hx ⟨c.toNat / 16, by omega⟩, hex_hx ⟨c.toNat % 16, by omega⟩, by simp only; omega⟩ (by rw [← hI]; exact next)
theorem text_any (l : List UInt8) (hl : l.length ≤ 8000) : ∀ (d i : Nat) (v : List UInt8), l.length - i ≤ d → i ≤ l.length → v.length ≤ i → ∃ (n : Int) (t : List UInt8) (ok : Bool), Ev (fun k => lex_text.l0 k (mk l) (nums v) (i : Int)) (n, mk t, ok) ∧ (ok = true → t.length ≤ 64 ∧ prt t <+: l) := by
  have stop : ∀ (i : Nat) (v : List UInt8), i = l.length → ∃ (n : Int) (t : List UInt8) (ok : Bool), Ev (fun k => lex_text.l0 k (mk l) (nums v) (i : Int)) (n, mk t, ok) ∧ (ok = true → t.length ≤ 64 ∧ prt t <+: l) := by
    intro i v hi
    refine ⟨0, [], false, ?_, fun h => by cases h⟩
    exact Ev.step (fun k => by simp only [lex_text.l0]; rfl) (Ev.neg (by rw [mk_size]; omega) (Ev.now _))
  intro d
  induction d with
  | zero => intro i v hd hi hv; exact stop i v (by omega)
  | succ d ih =>
    intro i v hd hi hv
    by_cases hlt : i < l.length
    · have hdr := List.drop_eq_getElem_cons hlt
      generalize l[i] = c at hdr
      obtain ⟨_, hb⟩ := bt_drop hdr
      by_cases h34 : c = 34
      · subst h34
        refine ⟨_, v, _, text_quote hl hdr, fun h => ?_⟩
        rw [Bool.and_eq_true, decide_eq_true_iff, beq_iff_eq] at h
        exact ⟨h.1, h.2 ▸ List.take_prefix _ _⟩
      · by_cases h92 : c = 92
        · subst h92
          have head : ∀ (b : Bool) (R : Int × ByteArray × Bool), strings_HasPrefix.f ((mk l).extract ((i : Int)).toNat (mk l).size) (⟨#[92, 120]⟩ : ByteArray) = some b → Ev (fun k => lex_text.j1 k (mk l) (nums v) (i : Int) 92 (b && decide (i + 3 < l.length))) R → Ev (fun k => lex_text.l0 k (mk l) (nums v) (i : Int)) R := by
            intro b R hp hj
            refine Ev.step (fun k => by simp only [lex_text.l0]; rfl) ?_
            rw [hb, hp, w_id (x := (i : Int) + 3) (by omega) (by omega)]
            refine Ev.pos (by rw [mk_size]; omega) (Ev.pos (by omega) (Ev.neg (by decide) (Ev.pos rfl (Ev.pos (by rw [mk_size]; omega) (Ev.bind (Ev.now _) ?_)))))
            cases b with
            | true =>
              refine Ev.pos rfl ?_
              rw [show decide ((i : Int) + 3 < ((mk l).size : Int)) = decide (i + 3 < l.length) by rw [mk_size, decide_eq_decide]; omega]
              simpa using hj
            | false => exact Ev.neg (by simp) (by simpa using hj)
          cases hr : l.drop (i + 1) with
          | nil =>
            have hlen := congrArg List.length hr
            rw [List.length_drop, List.length_nil] at hlen
            rw [hr] at hdr
            obtain ⟨n, t, ok, h1, h2⟩ := ih (i + 1) (v ++ [92]) (by omega) (by omega) (by simp; omega)
            refine ⟨n, t, ok, head false _ (pre_x1 hdr) ?_, h2⟩
            rw [Bool.false_and]
            refine Ev.step (fun k => by simp only [lex_text.j1]; rfl) ?_
            rw [wr_succ hlt (by omega), show nums v ++ [(92 : Int)] = nums (v ++ [92]) from nums_snoc v 92]
            exact Ev.neg (by simp) (Ev.pos (by trivial) (Ev.neg (by rw [mk_size]; omega) (Ev.pos (by rw [nums_len]; omega) h1)))
          | cons e Y =>
            rw [hr] at hdr
            have hlen := congrArg List.length hr
            rw [List.length_drop, List.length_cons] at hlen
            by_cases hx : e = 120 ∧ i + 3 < l.length
            · obtain ⟨rfl, h3⟩ := hx
              have hlY : 2 ≤ Y.length := by omega
              obtain ⟨a, Y1, rfl⟩ := List.exists_cons_of_ne_nil (show Y ≠ [] by rintro rfl; simp at hlY)
              obtain ⟨b, Y2, rfl⟩ := List.exists_cons_of_ne_nil (show Y1 ≠ [] by rintro rfl; simp at hlY)
              have hd2 : l.drop (i + 2) = a :: b :: Y2 := drop_next hr
              have hp := pre_x hdr
              have hj : (decide ((92 : UInt8) = 92 ∧ (120 : UInt8) = 120) && decide (i + 3 < l.length)) = true := by simp [h3]
              cases hxa : hexD (a.toNat : Int) with
              | none =>
                refine ⟨0, [], false, head _ _ hp ?_, fun h => by cases h⟩
                rw [hj]
                exact text_bad hl hd2 (Or.inl hxa)
              | some x =>
                cases hxb : hexD (b.toNat : Int) with
                | none =>
                  refine ⟨0, [], false, head _ _ hp ?_, fun h => by cases h⟩
                  rw [hj]
                  exact text_bad hl hd2 (Or.inr hxb)
                | some y =>
                  have q1 := hexD_lt _ _ hxa
                  have q2 := hexD_lt _ _ hxb
                  obtain ⟨n, t, ok, h1, h2⟩ := ih (i + 4) (v ++ [UInt8.ofNat (16 * x + y).toNat]) (by omega) (by omega) (by simp; omega)
                  refine ⟨n, t, ok, head _ _ hp ?_, h2⟩
                  rw [hj]
                  exact text_hex hl hv hd2 ⟨x, y, hxa, hxb, by rw [UInt8.toNat_ofNat']; omega⟩ h1
            · have hj : (decide ((92 : UInt8) = 92 ∧ e = 120) && decide (i + 3 < l.length)) = false := by
                rw [Bool.eq_false_iff]
                intro h
                simp only [Bool.and_eq_true, decide_eq_true_eq, true_and] at h
                exact hx h
              obtain ⟨n, t, ok, h1, h2⟩ := ih (i + 2) (v ++ [e]) (by omega) (by omega) (by simp; omega)
              refine ⟨n, t, ok, head _ _ (pre_x hdr) ?_, h2⟩
              rw [hj]
              exact text_esc hl hv hr h1
        · obtain ⟨n, t, ok, h1, h2⟩ := ih (i + 1) (v ++ [c]) (by omega) (by omega) (by simp; omega)
          refine ⟨n, t, ok, ?_, h2⟩
          refine Ev.step (fun k => by simp only [lex_text.l0]; rfl) ?_
          rw [hb]
          exact Ev.pos (by rw [mk_size]; omega) (Ev.pos (by omega) (Ev.neg (c_ne h34 (by decide)) (Ev.neg (c_ne h92 (by decide)) (text_plain hl hv hlt h92 h1))))
    · exact stop i v (by omega)
theorem text_ev (r : List UInt8) (hl : (34 :: r).length ≤ 8000) : (∃ t n, textTk (34 :: r) = some (3, t, 0, n) ∧ Ev (fun k => lex_text.f k (mk (34 :: r))) ((n : Int), mk t, true)) ∨ (textTk (34 :: r) = none ∧ ∃ n t, Ev (fun k => lex_text.f k (mk (34 :: r))) (n, t, false)) := by
  by_cases h : ∃ t : List UInt8, t.length ≤ 64 ∧ prt t <+: 34 :: r
  · obtain ⟨t, ht, rest, hr⟩ := h
    left
    refine ⟨t, (prt t).length, textTk_some ht ⟨rest, hr⟩, ?_⟩
    have := text_good t rest ht (by rw [hr]; exact hl) t [] rfl
    rw [hr] at this
    exact this
  · have hn : ∀ t : List UInt8, t.length ≤ 64 → ¬ prt t <+: 34 :: r := fun t h1 h2 => h ⟨t, h1, h2⟩
    right
    refine ⟨textTk_none hn, ?_⟩
    obtain ⟨n, t, ok, h1, h2⟩ := text_any (34 :: r) hl _ 1 [] (Nat.le_refl _) (by simp) (by simp)
    cases ok with
    | true => exact absurd (h2 rfl).2 (hn t (h2 rfl).1)
    | false => exact ⟨n, mk t, h1⟩
end Go.Proofs.YtdjcechogbcdnaaDoor.XL
namespace Go.Proofs.YtdjcechogbcdnaaDoor.XL
open Go.RowKit Go.Proofs.YtdjcechogbcdnaaDoorW.PrintWords Go.Proofs.YtdjcechogbcdnaaDoorW.PrintLast Go.Proofs.YtdjcechogbcdnaaDoorW.PrintMore
attribute [local go_sem] max2_int min2_int max_two min_two max_three min_three max_four min_four   -- for this text's walks alone
set_option linter.unusedVariables false
set_option linter.unusedSimpArgs false
section
variable {ops : Array Oper} {rest : List Oper} {o : Oper} {a : Act} {Q : Exit → Act → World → Prop} {W : World}
/-- A number is written into one cell of a block. -/
theorem store_cell {p : Tmp} {v : Operand} {g j : Nat} {t : TypeId} {cs : Array Value} {x : Int} (ho : o.op = .store 3 (.tmp p) v) (hgd : o.guard = none) (hN : o.dst = none) (hp : a.eval (.tmp p) = .pointer (some ⟨g, j, none⟩)) (hv : a.eval v = .int .i64 x) (hh : W.heap[g]? = some (.cells cs t (0, 0))) (hj : j < cs.size)
    (h : wpList Tryd.prog ops Q rest a (W.setCell ⟨g, j, none⟩ (.int .i64 x))) : wpList Tryd.prog ops Q (o :: rest) a W := by
  have hrun := run_store_run (P := Tryd.prog) (g := g) (o := j) 3 (.int .i64 x) [.int .i64 x] hh rfl (by kernel_rfl) (by simp only [List.length_cons, List.length_nil]; omega) (by simp [Value.oneCell'])
  refine wpList_plain hgd fun K hK => ?_
  unfold Oper.wp execOp
  simp only [ho, hp, hv, Sem.run_bind, Sem.run_pure, Result.andThen_ok, hrun]
  show K (a.put o.dst undef) _
  rw [hN]
  exact hK a _ h
end
def lex_Scan.l0 : Nat → ByteArray → List (S32) → Int → Option ((List (S32)) × Int × Int)
  | 0, _, _, _ => none
  | k + 1, x0, x5, x6 => if x6 < (x0.size : Int) then (if 0 ≤ x6 then (if x6 ≤ (x0.size : Int) then ((lex_token.f k (x0.extract (x6 : Int).toNat x0.size)).bind fun bt156 => (if bt156.2.2.2.2 = 0 then (some (([] : List (S32)), x6, 24)) else (if x5.length < 3518437208883 then (if 0 ≤ (wrap64 (x6 + bt156.2.2.2.2)) then (if (wrap64 (x6 + bt156.2.2.2.2)) ≤ (x0.size : Int) then ((lex_blanks.f k (x0.extract ((wrap64 (x6 + bt156.2.2.2.2)) : Int).toNat x0.size)).bind fun t165 => (lex_Scan.l0 k x0 (x5 ++ [(⟨bt156.1, bt156.2.1, bt156.2.2.1, x6⟩ : S32)]) (wrap64 ((wrap64 (x6 + bt156.2.2.2.2)) + t165)))) else (none)) else (none)) else (none)))) else (none)) else (none)) else (if x5.length < 3518437208883 then (some ((x5 ++ [(⟨0, (⟨#[]⟩ : ByteArray), 0, x6⟩ : S32)]), 0, 0)) else (none))
def lex_Scan.f (k : Nat) (a0 : ByteArray) : Option ((List (S32)) × Int × Int) := if (a0.size : Int) > 8000 then (some (([] : List (S32)), 0, 5)) else ((lex_blanks.f k a0).bind fun t152 => (lex_Scan.l0 k a0 ([] : List (S32)) t152))
set_option maxHeartbeats 4000000 in
set_option maxRecDepth 100000 in
theorem lex_Scan.calls (k : Nat) (a0 : ByteArray) (r1 : List (S32)) (r2 : Int) (r3 : Int) (w : World) (h : lex_Scan.f k a0 = some (r1, r2, r3)) (hT : Tabs w) :
    Calls Tryd.prog 8 #[.string a0] w fun e w' => ∃ v0_ : Value, e = .returned (.tuple #[v0_, .int .i64 r2, .int .i64 r3]) ∧ Kd.R k32 32 w' w.heap.size (fun _ => True) v0_ r1 ∧ Below w.heap.size w w' := by
  have HT := Aside0.mk hT
  clear hT
  have hu32 := Tryd.underlying32
  have HB := Aside0.mk (Below.refl w.heap.size w)
  have H : (if (a0.size : Int) > 8000 then (some (([] : List (S32)), 0, 5)) else ((lex_blanks.f k a0).bind fun t152 => (lex_Scan.l0 k a0 ([] : List (S32)) t152))) = some (r1, r2, r3) := h
  clear h
  by_cases c2 : (a0.size : Int) > 8000
  · rw [if_pos c2] at H
    have c2b0 : decide (8000 < (a0.size : Int)) = true := decide_eq_true c2
    have c2b1 : decide (8000 < a0.size) = true := decide_eq_true (by omega)
    clear c2
    simp only [Option.some.injEq, Prod.mk.injEq] at H
    obtain ⟨rfl, rfl, rfl⟩ := H
    go_enter Tryd.func8, Tryd.ntmps8
    go_wp2
    go_ret3
    exact ⟨_, by first | rfl | (simp [errW_none, errW_some] <;> rfl) | (simp [*, errW_none, errW_some] <;> rfl), by first | exact Kd.R_nil _ _ _ _ _ | exact Kd.N_nil _ _ _ _ _ | exact Kd.V_nil _ _ _ _ _ | exact Kd.Q_nil _ _ _ _ _ | exact Kd.S_nil _ _ _ _ _, by repeat (first | (with_reducible first | exact HB.out | apply below_alloc | apply pw_below_drewN | apply below_drew1) | exact HB.out)⟩
  · rw [if_neg c2] at H
    have c2b0 : decide (8000 < (a0.size : Int)) = false := decide_eq_false c2
    have c2b1 : decide (8000 < a0.size) = false := decide_eq_false (by omega)
    clear c2
    replace H := Option.bind_eq_some_iff.mp H
    obtain ⟨t152, A30, H⟩ := H
    replace H : (lex_Scan.l0 k a0 ([] : List (S32)) t152) = some (r1, r2, r3) := H
    have A3 := Aside0.mk A30
    clear A30
    have H' := Aside0.mk H
    clear H
    go_enter Tryd.func8, Tryd.ntmps8
    go_wp2_with (first | ((with_reducible refine gate_callee (f := 12) rfl ?_); refine goesL_ (some 13) rfl rfl Tryd.func12 (by kernel_rfl) rfl #[.string a0] rfl (by (try simp only [List.map_toArray, List.map_cons, List.map_nil]); first | done | rfl | (simp only [List.length_drop, List.length_take]; rfl)) ?_; (with_reducible refine (lex_blanks.calls k a0 t152 _ A3.out).mono ?_); rintro e w' ⟨rfl, ⟨nd, rfl⟩⟩; refine ⟨_, rfl, ?_⟩))
    go_loopg [5, 6] k (fun kq v5 v6 w' => ∃ (x5_1 : List (S32)) (x6_1 : Int), v6 = .int .i64 x6_1 ∧ Aside0 (lex_Scan.l0 kq a0 x5_1 x6_1 = some (r1, r2, r3)) ∧ Aside0 (kq ≤ k) ∧ Aside0 (Kd.R k32 32 w' w.heap.size (fun _ => True) v5 x5_1) ∧ Aside0 (Below w.heap.size w w'))
    case atStart => exact ⟨(([] : List (S32))), (t152), (by first | rfl | (simp; done) | (simp [*]; done)), H', ⟨Nat.le_refl _⟩, ⟨by first | exact Kd.R_nil _ _ _ _ _ | exact Kd.N_nil _ _ _ _ _ | exact Kd.V_nil _ _ _ _ _ | exact Kd.Q_nil _ _ _ _ _ | exact Kd.S_nil _ _ _ _ _⟩, ⟨by repeat (first | (with_reducible first | exact HB.out | apply below_alloc | apply pw_below_drewN | apply below_drew1) | exact HB.out)⟩⟩
    case round =>
      clear H'
      try clear c1
      try clear c2
      try clear c2b0
      try clear c2b1
      try clear p2
      obtain ⟨x5_1, x6_1, rfl, HA, HK1, HO_5, HB⟩ := hrel
      cases gk with
      | zero => exact absurd HA.out (by simp [lex_Scan.l0])
      | succ k1 =>
        have H := HA.out
        clear HA
        simp only [lex_Scan.l0] at H
        by_cases c4 : x6_1 < (a0.size : Int)
        · rw [if_pos c4] at H
          have c4b0 : decide (x6_1 < (a0.size : Int)) = true := decide_eq_true c4
          clear c4
          by_cases c5 : 0 ≤ x6_1
          · rw [if_pos c5] at H
            have c5b0 := eq_true c5
            have c5b1 : decide (0 ≤ x6_1) = true := decide_eq_true c5
            clear c5
            by_cases c6 : x6_1 ≤ (a0.size : Int)
            · rw [if_pos c6] at H
              have c6b0 := eq_true c6
              have c6b1 : decide (x6_1 ≤ (a0.size : Int)) = true := decide_eq_true c6
              clear c6
              replace H := Option.bind_eq_some_iff.mp H
              obtain ⟨⟨t156, t157, t158, t159, t160⟩, A70, H⟩ := H
              replace H : (if t160 = 0 then (some (([] : List (S32)), x6_1, 24)) else (if x5_1.length < 3518437208883 then (if 0 ≤ (wrap64 (x6_1 + t160)) then (if (wrap64 (x6_1 + t160)) ≤ (a0.size : Int) then ((lex_blanks.f k1 (a0.extract ((wrap64 (x6_1 + t160)) : Int).toNat a0.size)).bind fun t165 => (lex_Scan.l0 k1 a0 (x5_1 ++ [(⟨t156, t157, t158, x6_1⟩ : S32)]) (wrap64 ((wrap64 (x6_1 + t160)) + t165)))) else (none)) else (none)) else (none))) = some (r1, r2, r3) := H
              have A7 := Aside0.mk A70
              clear A70
              by_cases c8 : t160 = 0
              · rw [if_pos c8] at H
                have c8b0 : (t160 == 0) = true := beq_iff_eq.mpr c8
                have c8b1 : (t160 != 0) = false := bne_eq_false_iff_eq.mpr c8
                clear c8
                simp only [Option.some.injEq, Prod.mk.injEq] at H
                obtain ⟨rfl, rfl, rfl⟩ := H
                go_wp2_with (first | ((with_reducible refine gate_callee (f := 13) rfl ?_); refine goesL_ (some 22) rfl rfl Tryd.func13 (by kernel_rfl) rfl #[.string (a0.extract (x6_1 : Int).toNat a0.size)] rfl (by (try simp only [List.map_toArray, List.map_cons, List.map_nil]); first | done | rfl | (simp only [List.length_drop, List.length_take]; rfl)) ?_; (with_reducible refine (lex_token.calls k1 (a0.extract (x6_1 : Int).toNat a0.size) t156 t157 t158 t159 t160 _ A7.out (Tabs.below HT.out (by repeat (first | (with_reducible first | exact HB.out | apply below_alloc | apply pw_below_drewN | apply below_drew1) | exact HB.out)))).mono ?_); rintro e w9 ⟨rfl, hb⟩; refine ⟨_, rfl, ?_⟩; have n0_ := Aside0.mk (Kd.R_below (by (with_reducible repeat (first | apply Kd.R_alloc | apply Kd.R_drewN | apply Kd.R_drew)); exact HO_5.out) hb); have n1_ := Aside0.mk (below_step (by repeat (first | (with_reducible first | exact HB.out | apply below_alloc | apply pw_below_drewN | apply below_drew1) | exact HB.out)) hb); clear HO_5; clear HB; have HO_5 := n0_; have HB := n1_; clear n0_ n1_; (try clear hb); (try clear hb2); (try clear hk); (try clear hi)) | ((with_reducible refine gate_dst (N := 7) rfl ?_); refine box_event ?hg (N := 7) ?hd (cs := #[.int .i64 0, .string (⟨#[]⟩ : ByteArray), .int .i64 0, .int .i64 0]) (t := 32) ?hr ?_; (case hd => rfl); (case hg => rfl); (case hr => first | (go_simp; done) | (go_simp; rfl)); intro gb161 hg w10 hbox hb; have n0_ := Aside0.mk (Kd.R_below (Kd.R_elderB (by (with_reducible repeat (first | apply Kd.R_alloc | apply Kd.R_drewN | apply Kd.R_drew)); exact HO_5.out) gb161 (Nat.le_of_eq hg.symm)) hb); have n1_ := Aside0.mk (below_step (by repeat (first | (with_reducible first | exact HB.out | apply below_alloc | apply pw_below_drewN | apply below_drew1) | exact HB.out)) hb); have n2_ := Aside0.mk (hbox); have n3_ := Aside0.mk ((by rw [hg]; exact (below_size (by repeat (first | (with_reducible first | exact HB.out | apply below_alloc | apply pw_below_drewN | apply below_drew1) | exact HB.out))) : w.heap.size ≤ gb161)); have n4_ := Aside0.mk ((by rw [hg]; exact (below_size (by repeat (first | (with_reducible first | exact HB.out | apply below_alloc | apply pw_below_drewN | apply below_drew1) | exact HB.out))) : w.heap.size ≤ gb161)); clear HO_5; clear HB; have HO_5 := n0_; have HB := n1_; have BK161 := n2_; have GW161 := n3_; have GE161 := n4_; clear n0_ n1_ n2_ n3_ n4_; clear hb hbox hg; have hcz11_0 : w10.cell? ⟨gb161, 0, none⟩ = some (.int .i64 0) := (blk_cell BK161.out 0).trans rfl; have hcz11_1 : w10.cell? ⟨gb161, 1, none⟩ = some (.string (⟨#[]⟩ : ByteArray)) := (blk_cell BK161.out 1).trans rfl; have hcz11_2 : w10.cell? ⟨gb161, 2, none⟩ = some (.int .i64 0) := (blk_cell BK161.out 2).trans rfl; have hcz11_3 : w10.cell? ⟨gb161, 3, none⟩ = some (.int .i64 0) := (blk_cell BK161.out 3).trans rfl; have hfz11_0 := blk_frozen BK161.out 0; have hfz11_1 := blk_frozen BK161.out 1; have hfz11_2 := blk_frozen BK161.out 2; have hfz11_3 := blk_frozen BK161.out 3))
                go_ret3
                exact ⟨_, by first | rfl | (simp [errW_none, errW_some] <;> rfl) | (simp [*, errW_none, errW_some] <;> rfl), by first | exact Kd.R_nil _ _ _ _ _ | exact Kd.N_nil _ _ _ _ _ | exact Kd.V_nil _ _ _ _ _ | exact Kd.Q_nil _ _ _ _ _ | exact Kd.S_nil _ _ _ _ _, by repeat (first | (with_reducible first | exact HB.out | apply below_alloc | apply pw_below_drewN | apply below_drew1 | refine below_set ?_ GE161.out) | exact HB.out)⟩
              · rw [if_neg c8] at H
                have c8b0 : (t160 == 0) = false := beq_eq_false_iff_ne.mpr c8
                have c8b1 : (t160 != 0) = true := bne_iff_ne.mpr c8
                by_cases c12 : x5_1.length < 3518437208883
                · rw [if_pos c12] at H
                  have LMc12 := Aside0.mk c12
                  clear c12
                  obtain ⟨y162, hy162⟩ : ∃ y_ : List (S32), y_ = (x5_1 ++ [(⟨t156, t157, t158, x6_1⟩ : S32)]) := ⟨_, rfl⟩
                  replace H : (if 0 ≤ (wrap64 (x6_1 + t160)) then (if (wrap64 (x6_1 + t160)) ≤ (a0.size : Int) then ((lex_blanks.f k1 (a0.extract ((wrap64 (x6_1 + t160)) : Int).toNat a0.size)).bind fun t165 => (lex_Scan.l0 k1 a0 y162 (wrap64 ((wrap64 (x6_1 + t160)) + t165)))) else (none)) else (none)) = some (r1, r2, r3) := by first | (rw [hy162]; with_reducible exact H) | (have H2_ := (Option.bind_some _ _).symm.trans H; rw [hy162]; with_reducible exact H2_) | (have H2_ := (Option.bind_some _ _).symm.trans H; with_reducible exact H2_) | with_reducible exact H | (rw [hy162]; exact H) | exact H
                  have Ny162 := Aside0.mk hy162
                  clear hy162
                  obtain ⟨ji13, hji13⟩ : ∃ j_ : Int, (wrap64 (x6_1 + t160)) = j_ := ⟨_, rfl⟩
                  replace H : (if 0 ≤ (ji13) then (if (ji13) ≤ (a0.size : Int) then ((lex_blanks.f k1 (a0.extract ((ji13) : Int).toNat a0.size)).bind fun t165 => (lex_Scan.l0 k1 a0 y162 (wrap64 ((ji13) + t165)))) else (none)) else (none)) = some (r1, r2, r3) := by first | (rw [hji13] at H; exact H) | (simp only [hji13] at H ⊢; exact H)
                  (try rw [hji13] at A7)
                  have hji13w : (IntKind.i64.wrap (x6_1 + t160)) = ji13 := (i64_w _).trans hji13
                  by_cases c14 : 0 ≤ (ji13)
                  · rw [if_pos c14] at H
                    have c14b0 := eq_true c14
                    have c14b1 : decide (0 ≤ (ji13)) = true := decide_eq_true c14
                    clear c14
                    by_cases c15 : (ji13) ≤ (a0.size : Int)
                    · rw [if_pos c15] at H
                      have c15b0 := eq_true c15
                      have c15b1 : decide ((ji13) ≤ (a0.size : Int)) = true := decide_eq_true c15
                      clear c15
                      replace H := Option.bind_eq_some_iff.mp H
                      obtain ⟨t165, A160, H⟩ := H
                      replace H : (lex_Scan.l0 k1 a0 y162 (wrap64 ((ji13) + t165))) = some (r1, r2, r3) := H
                      have A16 := Aside0.mk A160
                      clear A160
                      have H' := Aside0.mk H
                      clear H
                      go_wp2_with (first | ((with_reducible refine gate_store (t := 3) (p := 29) (v := .tmp 28) rfl ?_); refine store_cell (g := gb161) (j := 3) rfl rfl rfl rfl rfl (by (with_reducible repeat (first | refine blk_drewN ?_ _ | refine blk_drew ?_ | refine blk_alloc ?_ _)); refine blk_put (cs := #[.int .i64 t156, .string t157, .int .i64 t158, .int .i64 0]) ?_ 3 _ rfl; (with_reducible repeat (first | refine blk_drewN ?_ _ | refine blk_drew ?_ | refine blk_alloc ?_ _)); refine blk_put (cs := #[.int .i64 t156, .string t157, .int .i64 0, .int .i64 0]) ?_ 2 _ rfl; (with_reducible repeat (first | refine blk_drewN ?_ _ | refine blk_drew ?_ | refine blk_alloc ?_ _)); refine blk_put (cs := #[.int .i64 t156, .string (⟨#[]⟩ : ByteArray), .int .i64 0, .int .i64 0]) ?_ 1 _ rfl; (with_reducible repeat (first | refine blk_drewN ?_ _ | refine blk_drew ?_ | refine blk_alloc ?_ _)); refine blk_put (cs := #[.int .i64 0, .string (⟨#[]⟩ : ByteArray), .int .i64 0, .int .i64 0]) ?_ 0 _ rfl; (with_reducible repeat (first | refine blk_drewN ?_ _ | refine blk_drew ?_ | refine blk_alloc ?_ _)); exact BK161.out) (by decide) ?_) | ((with_reducible refine gate_dst (N := 31) rfl ?_); refine wpList_load_row rfl 32 (.tmp 7) rfl gb161 rfl 32 #[.int .i64 t156, .string t157, .int .i64 t158, .int .i64 x6_1] (0, 0) _ (by (with_reducible repeat (first | refine blk_drewN ?_ _ | refine blk_drew ?_ | refine blk_alloc ?_ _)); refine blk_put (cs := #[.int .i64 t156, .string t157, .int .i64 t158, .int .i64 t159]) ?_ 3 _ rfl; (with_reducible repeat (first | refine blk_drewN ?_ _ | refine blk_drew ?_ | refine blk_alloc ?_ _)); refine blk_put (cs := #[.int .i64 t156, .string t157, .int .i64 t158, .int .i64 0]) ?_ 3 _ rfl; (with_reducible repeat (first | refine blk_drewN ?_ _ | refine blk_drew ?_ | refine blk_alloc ?_ _)); refine blk_put (cs := #[.int .i64 t156, .string t157, .int .i64 0, .int .i64 0]) ?_ 2 _ rfl; (with_reducible repeat (first | refine blk_drewN ?_ _ | refine blk_drew ?_ | refine blk_alloc ?_ _)); refine blk_put (cs := #[.int .i64 t156, .string (⟨#[]⟩ : ByteArray), .int .i64 0, .int .i64 0]) ?_ 1 _ rfl; (with_reducible repeat (first | refine blk_drewN ?_ _ | refine blk_drew ?_ | refine blk_alloc ?_ _)); refine blk_put (cs := #[.int .i64 0, .string (⟨#[]⟩ : ByteArray), .int .i64 0, .int .i64 0]) ?_ 0 _ rfl; (with_reducible repeat (first | refine blk_drewN ?_ _ | refine blk_drew ?_ | refine blk_alloc ?_ _)); exact BK161.out) Tryd.underlying32 rfl (by kernel_rfl) ?_) | ((with_reducible refine gate_callee (f := 13) rfl ?_); refine goesL_ (some 22) rfl rfl Tryd.func13 (by kernel_rfl) rfl #[.string (a0.extract (x6_1 : Int).toNat a0.size)] rfl (by (try simp only [List.map_toArray, List.map_cons, List.map_nil]); first | done | rfl | (simp only [List.length_drop, List.length_take]; rfl)) ?_; (with_reducible refine (lex_token.calls k1 (a0.extract (x6_1 : Int).toNat a0.size) t156 t157 t158 t159 t160 _ A7.out (Tabs.below HT.out (by repeat (first | (with_reducible first | exact HB.out | apply below_alloc | apply pw_below_drewN | apply below_drew1) | exact HB.out)))).mono ?_); rintro e w17 ⟨rfl, hb⟩; refine ⟨_, rfl, ?_⟩; have n0_ := Aside0.mk (Kd.R_below (by (with_reducible repeat (first | apply Kd.R_alloc | apply Kd.R_drewN | apply Kd.R_drew)); exact HO_5.out) hb); have n1_ := Aside0.mk (below_step (by repeat (first | (with_reducible first | exact HB.out | apply below_alloc | apply pw_below_drewN | apply below_drew1) | exact HB.out)) hb); clear HO_5; clear HB; have HO_5 := n0_; have HB := n1_; clear n0_ n1_; (try clear hb); (try clear hb2); (try clear hk); (try clear hi)) | ((with_reducible refine gate_dst (N := 7) rfl ?_); refine box_event ?hg (N := 7) ?hd (cs := #[.int .i64 0, .string (⟨#[]⟩ : ByteArray), .int .i64 0, .int .i64 0]) (t := 32) ?hr ?_; (case hd => rfl); (case hg => rfl); (case hr => first | (go_simp; done) | (go_simp; rfl)); intro gb161 hg w18 hbox hb; have n0_ := Aside0.mk (Kd.R_below (Kd.R_elderB (by (with_reducible repeat (first | apply Kd.R_alloc | apply Kd.R_drewN | apply Kd.R_drew)); exact HO_5.out) gb161 (Nat.le_of_eq hg.symm)) hb); have n1_ := Aside0.mk (below_step (by repeat (first | (with_reducible first | exact HB.out | apply below_alloc | apply pw_below_drewN | apply below_drew1) | exact HB.out)) hb); have n2_ := Aside0.mk (hbox); have n3_ := Aside0.mk ((by rw [hg]; exact (below_size (by repeat (first | (with_reducible first | exact HB.out | apply below_alloc | apply pw_below_drewN | apply below_drew1) | exact HB.out))) : w.heap.size ≤ gb161)); have n4_ := Aside0.mk ((by rw [hg]; exact (below_size (by repeat (first | (with_reducible first | exact HB.out | apply below_alloc | apply pw_below_drewN | apply below_drew1) | exact HB.out))) : w.heap.size ≤ gb161)); clear HO_5; clear HB; have HO_5 := n0_; have HB := n1_; have BK161 := n2_; have GW161 := n3_; have GE161 := n4_; clear n0_ n1_ n2_ n3_ n4_; clear hb hbox hg; have hcz19_0 : w18.cell? ⟨gb161, 0, none⟩ = some (.int .i64 0) := (blk_cell BK161.out 0).trans rfl; have hcz19_1 : w18.cell? ⟨gb161, 1, none⟩ = some (.string (⟨#[]⟩ : ByteArray)) := (blk_cell BK161.out 1).trans rfl; have hcz19_2 : w18.cell? ⟨gb161, 2, none⟩ = some (.int .i64 0) := (blk_cell BK161.out 2).trans rfl; have hcz19_3 : w18.cell? ⟨gb161, 3, none⟩ = some (.int .i64 0) := (blk_cell BK161.out 3).trans rfl; have hfz19_0 := blk_frozen BK161.out 0; have hfz19_1 := blk_frozen BK161.out 1; have hfz19_2 := blk_frozen BK161.out 2; have hfz19_3 := blk_frozen BK161.out 3) | ((with_reducible refine gate_builtin (b := .append) (xs := #[.tmp 30, .tmp 32]) rfl ?_); at_builtin; refine Kd.R_append k32 (w0 := w) w.heap.size rfl (.tmp 30) (.tmp 32) 23 32 (.agg #[(.int .i64 0), (.string ⟨#[]⟩), (.int .i64 0), (.int .i64 0)]) 40 rfl Tryd.underlying23 info32 rfl (by decide) (by omega) u5 x5_1 (⟨t156, t157, t158, x6_1⟩ : S32) [.int .i64 t156, .string t157, .int .i64 t158, .int .i64 x6_1] (fun k_ => k_ ≠ gb161) (fun _ => False) rfl (by first | (go_simp; done) | (go_simp; rfl)) ?aP (fun _ hk => hk.elim) ?aF ?aO ?aB ?aS ?aL ?_; (case aP => exact k32_mkM _ _ _ (⟨t156, t157, t158, x6_1⟩ : S32)); (case aB => exact (by repeat (first | (with_reducible first | exact HB.out | apply below_alloc | apply pw_below_drewN | apply below_drew1 | refine below_set ?_ GE161.out) | exact HB.out))); (case aF => exact (fun k_ hk => Kd.freshB (g := gb161) (o := .cells #[.int .i64 t156, .string t157, .int .i64 t158, .int .i64 x6_1] 32 (0, 0)) (by (with_reducible repeat (first | refine blk_drewN ?_ _ | refine blk_drew ?_ | refine blk_alloc ?_ _)); refine blk_put (cs := #[.int .i64 t156, .string t157, .int .i64 t158, .int .i64 t159]) ?_ 3 _ rfl; (with_reducible repeat (first | refine blk_drewN ?_ _ | refine blk_drew ?_ | refine blk_alloc ?_ _)); refine blk_put (cs := #[.int .i64 t156, .string t157, .int .i64 t158, .int .i64 0]) ?_ 3 _ rfl; (with_reducible repeat (first | refine blk_drewN ?_ _ | refine blk_drew ?_ | refine blk_alloc ?_ _)); refine blk_put (cs := #[.int .i64 t156, .string t157, .int .i64 0, .int .i64 0]) ?_ 2 _ rfl; (with_reducible repeat (first | refine blk_drewN ?_ _ | refine blk_drew ?_ | refine blk_alloc ?_ _)); refine blk_put (cs := #[.int .i64 t156, .string (⟨#[]⟩ : ByteArray), .int .i64 0, .int .i64 0]) ?_ 1 _ rfl; (with_reducible repeat (first | refine blk_drewN ?_ _ | refine blk_drew ?_ | refine blk_alloc ?_ _)); refine blk_put (cs := #[.int .i64 0, .string (⟨#[]⟩ : ByteArray), .int .i64 0, .int .i64 0]) ?_ 0 _ rfl; (with_reducible repeat (first | refine blk_drewN ?_ _ | refine blk_drew ?_ | refine blk_alloc ?_ _)); exact BK161.out) k_ hk)); (case aO => exact (by (with_reducible repeat (first | apply Kd.R_alloc | apply Kd.R_drewN | apply Kd.R_drew)); exact Kd.R_mono (Kd.R_far (p := ⟨gb161, 3, none⟩) (Kd.R_far (p := ⟨gb161, 3, none⟩) (Kd.R_far (p := ⟨gb161, 2, none⟩) (Kd.R_far (p := ⟨gb161, 1, none⟩) (Kd.R_far (p := ⟨gb161, 0, none⟩) (Kd.R_mono HO_5.out (fun k_ hk => (⟨hk, hk.2⟩ : _ ∧ k_ ≠ gb161))) (fun _ hk => hk.2) (.int .i64 t156)) (fun _ hk => hk.2) (.string t157)) (fun _ hk => hk.2) (.int .i64 t158)) (fun _ hk => hk.2) (.int .i64 t159)) (fun _ hk => hk.2) (.int .i64 x6_1)) (fun _ hk => hk.1.2))); (case aS => exact (below_size (by repeat (first | (with_reducible first | exact HB.out | apply below_alloc | apply pw_below_drewN | apply below_drew1 | refine below_set ?_ GE161.out) | exact HB.out)))); (case aL => have := LMc12.out; omega); intro v163 w20 ho hb hg hat; rw [← Ny162.out] at ho; have n0_ := Aside0.mk (blk_grown (g := gb161) (o := .cells #[.int .i64 t156, .string t157, .int .i64 t158, .int .i64 x6_1] 32 (0, 0)) (by (with_reducible repeat (first | refine blk_drewN ?_ _ | refine blk_drew ?_ | refine blk_alloc ?_ _)); refine blk_put (cs := #[.int .i64 t156, .string t157, .int .i64 t158, .int .i64 t159]) ?_ 3 _ rfl; (with_reducible repeat (first | refine blk_drewN ?_ _ | refine blk_drew ?_ | refine blk_alloc ?_ _)); refine blk_put (cs := #[.int .i64 t156, .string t157, .int .i64 t158, .int .i64 0]) ?_ 3 _ rfl; (with_reducible repeat (first | refine blk_drewN ?_ _ | refine blk_drew ?_ | refine blk_alloc ?_ _)); refine blk_put (cs := #[.int .i64 t156, .string t157, .int .i64 0, .int .i64 0]) ?_ 2 _ rfl; (with_reducible repeat (first | refine blk_drewN ?_ _ | refine blk_drew ?_ | refine blk_alloc ?_ _)); refine blk_put (cs := #[.int .i64 t156, .string (⟨#[]⟩ : ByteArray), .int .i64 0, .int .i64 0]) ?_ 1 _ rfl; (with_reducible repeat (first | refine blk_drewN ?_ _ | refine blk_drew ?_ | refine blk_alloc ?_ _)); refine blk_put (cs := #[.int .i64 0, .string (⟨#[]⟩ : ByteArray), .int .i64 0, .int .i64 0]) ?_ 0 _ rfl; (with_reducible repeat (first | refine blk_drewN ?_ _ | refine blk_drew ?_ | refine blk_alloc ?_ _)); exact BK161.out) hg (Kd.R_away HO_5.out (fun _ hk => hk.2))); have n1_ := Aside0.mk (hb); have n2_ := Aside0.mk (ho); clear BK161; clear HB; clear HO_5; have BK161 := n0_; have HB := n1_; have HO164 := n2_; clear n0_ n1_ n2_; clear ho hb hg hat) | ((with_reducible refine gate_callee (f := 12) rfl ?_); refine goesL_ (some 41) rfl rfl Tryd.func12 (by kernel_rfl) rfl #[.string (a0.extract ((ji13) : Int).toNat a0.size)] rfl (by (try simp only [List.map_toArray, List.map_cons, List.map_nil]); first | done | (simp only [hji13]; rfl) | rfl | (simp only [List.length_drop, List.length_take]; rfl)) ?_; (with_reducible refine (lex_blanks.calls k1 (a0.extract ((ji13) : Int).toNat a0.size) t165 _ A16.out).mono ?_); rintro e w' ⟨rfl, ⟨nd, rfl⟩⟩; refine ⟨_, rfl, ?_⟩))
                      go_roundg k1
                      case measure => have := HK1.out; omega
                      case rel => exact ⟨(y162), (wrap64 ((ji13) + t165)), (by first | rfl | (simp; done) | (simp only [← hji13] <;> (first | rfl | simp)) | (simp [*]; done)), H', ⟨by have := HK1.out; omega⟩, ⟨by (with_reducible repeat (first | apply Kd.R_alloc | apply Kd.R_drewN | apply Kd.R_drew)); exact Kd.R_mono HO164.out (fun _ hk => trivial)⟩, ⟨by repeat (first | (with_reducible first | exact HB.out | apply below_alloc | apply pw_below_drewN | apply below_drew1 | refine below_set ?_ GE161.out) | exact HB.out)⟩⟩
                    · rw [if_neg c15] at H
                      exact absurd H (by simp)
                  · rw [if_neg c14] at H
                    exact absurd H (by simp)
                · rw [if_neg c12] at H
                  exact absurd H (by simp)
            · rw [if_neg c6] at H
              exact absurd H (by simp)
          · rw [if_neg c5] at H
            exact absurd H (by simp)
        · rw [if_neg c4] at H
          have c4b0 : decide (x6_1 < (a0.size : Int)) = false := decide_eq_false c4
          clear c4
          by_cases c21 : x5_1.length < 3518437208883
          · rw [if_pos c21] at H
            have LMc21 := Aside0.mk c21
            clear c21
            obtain ⟨y153, hy153⟩ : ∃ y_ : List (S32), y_ = (x5_1 ++ [(⟨0, (⟨#[]⟩ : ByteArray), 0, x6_1⟩ : S32)]) := ⟨_, rfl⟩
            replace H : (some (y153, 0, 0)) = some (r1, r2, r3) := by first | (rw [hy153]; with_reducible exact H) | (have H2_ := (Option.bind_some _ _).symm.trans H; rw [hy153]; with_reducible exact H2_) | (have H2_ := (Option.bind_some _ _).symm.trans H; with_reducible exact H2_) | with_reducible exact H | (rw [hy153]; exact H) | exact H
            have Ny153 := Aside0.mk hy153
            clear hy153
            simp only [Option.some.injEq, Prod.mk.injEq] at H
            obtain ⟨rfl, rfl, rfl⟩ := H
            go_wp2_with (first | ((with_reducible refine gate_builtin (b := .append) (xs := #[.tmp 43, .tmp 46]) rfl ?_); at_builtin; refine Kd.R_append k32 (w0 := w) w.heap.size rfl (.tmp 43) (.tmp 46) 23 32 (.agg #[(.int .i64 0), (.string ⟨#[]⟩), (.int .i64 0), (.int .i64 0)]) 40 rfl Tryd.underlying23 info32 rfl (by decide) (by omega) u5 x5_1 (⟨0, (⟨#[]⟩ : ByteArray), 0, x6_1⟩ : S32) [.int .i64 0, .string (⟨#[]⟩ : ByteArray), .int .i64 0, .int .i64 x6_1] (fun _ => True) (fun _ => False) rfl rfl ?aP (fun _ hk => hk.elim) ?aF ?aO ?aB ?aS ?aL ?_; (case aP => exact k32_mkM _ _ _ (⟨0, (⟨#[]⟩ : ByteArray), 0, x6_1⟩ : S32)); (case aB => exact (by repeat (first | (with_reducible first | exact HB.out | apply below_alloc | apply pw_below_drewN | apply below_drew1) | exact HB.out))); (case aF => exact (fun _ _ => trivial)); (case aO => exact (by (with_reducible repeat (first | apply Kd.R_alloc | apply Kd.R_drewN | apply Kd.R_drew)); exact HO_5.out)); (case aS => exact (below_size (by repeat (first | (with_reducible first | exact HB.out | apply below_alloc | apply pw_below_drewN | apply below_drew1) | exact HB.out)))); (case aL => have := LMc21.out; omega); intro v154 w22 ho hb hg hat; rw [← Ny153.out] at ho; have n0_ := Aside0.mk (hb); have n1_ := Aside0.mk (ho); clear HB; clear HO_5; have HB := n0_; have HO155 := n1_; clear n0_ n1_; clear ho hb hg hat))
            go_ret3
            exact ⟨_, by first | rfl | (simp [errW_none, errW_some] <;> rfl) | (simp [*, errW_none, errW_some] <;> rfl), by (with_reducible repeat (first | apply Kd.R_alloc | apply Kd.R_drewN | apply Kd.R_drew)); exact HO155.out, by repeat (first | (with_reducible first | exact HB.out | apply below_alloc | apply pw_below_drewN | apply below_drew1) | exact HB.out)⟩
          · rw [if_neg c21] at H
            exact absurd H (by simp)
def switchyardlaw07_awake.f (k : Nat)  : Option (Bool) := (lex_Scan.f k (⟨#[97, 45, 62, 98, 32, 47, 47, 32, 99]⟩ : ByteArray)).bind fun bt166 => ((lex_Scan.f k (⟨#[48, 49]⟩ : ByteArray)).bind fun bt171 => ((lex_Scan.f k (⟨#[34, 92, 113, 34]⟩ : ByteArray)).bind fun bt176 => ((lex_Scan.f k (⟨#[39]⟩ : ByteArray)).bind fun bt181 => (if bt166.2.2 = 0 then (if (bt166.1.length : Int) = 4 then (if 1 < (bt166.1.length : Int) then (if ((rd_T32 bt166.1 1).f1).toList = ([45, 62] : List UInt8) then (if 3 < (bt166.1.length : Int) then (if ((rd_T32 bt166.1 3).f3) = 9 then (if bt171.2.2 = 24 then (if bt171.2.1 = 0 then (if bt176.2.2 = 24 then (some (bt181.2.2 == 24)) else (some false)) else (some false)) else (some false)) else (some false)) else (none)) else (some false)) else (none)) else (some false)) else (some false)))))
set_option maxHeartbeats 4000000 in
set_option maxRecDepth 100000 in
theorem switchyardlaw07_awake.calls (k : Nat)  (r : Bool) (w : World) (h : switchyardlaw07_awake.f k  = some r) (hT : Tabs w) :
    Calls Tryd.prog 7 #[] w fun e w' => e = .returned (.bool r) ∧ Below w.heap.size w w' := by
  have HT := Aside0.mk hT
  clear hT
  have HB := Aside0.mk (Below.refl w.heap.size w)
  have H : ((lex_Scan.f k (⟨#[97, 45, 62, 98, 32, 47, 47, 32, 99]⟩ : ByteArray)).bind fun bt166 => ((lex_Scan.f k (⟨#[48, 49]⟩ : ByteArray)).bind fun bt171 => ((lex_Scan.f k (⟨#[34, 92, 113, 34]⟩ : ByteArray)).bind fun bt176 => ((lex_Scan.f k (⟨#[39]⟩ : ByteArray)).bind fun bt181 => (if bt166.2.2 = 0 then (if (bt166.1.length : Int) = 4 then (if 1 < (bt166.1.length : Int) then (if ((rd_T32 bt166.1 1).f1).toList = ([45, 62] : List UInt8) then (if 3 < (bt166.1.length : Int) then (if ((rd_T32 bt166.1 3).f3) = 9 then (if bt171.2.2 = 24 then (if bt171.2.1 = 0 then (if bt176.2.2 = 24 then (some (bt181.2.2 == 24)) else (some false)) else (some false)) else (some false)) else (some false)) else (none)) else (some false)) else (none)) else (some false)) else (some false)))))) = some r := h
  clear h
  replace H := Option.bind_eq_some_iff.mp H
  obtain ⟨⟨t166, t167, t168⟩, A10, H⟩ := H
  replace H : ((lex_Scan.f k (⟨#[48, 49]⟩ : ByteArray)).bind fun bt171 => ((lex_Scan.f k (⟨#[34, 92, 113, 34]⟩ : ByteArray)).bind fun bt176 => ((lex_Scan.f k (⟨#[39]⟩ : ByteArray)).bind fun bt181 => (if t168 = 0 then (if (t166.length : Int) = 4 then (if 1 < (t166.length : Int) then (if ((rd_T32 t166 1).f1).toList = ([45, 62] : List UInt8) then (if 3 < (t166.length : Int) then (if ((rd_T32 t166 3).f3) = 9 then (if bt171.2.2 = 24 then (if bt171.2.1 = 0 then (if bt176.2.2 = 24 then (some (bt181.2.2 == 24)) else (some false)) else (some false)) else (some false)) else (some false)) else (none)) else (some false)) else (none)) else (some false)) else (some false))))) = some r := H
  have A1 := Aside0.mk A10
  clear A10
  replace H := Option.bind_eq_some_iff.mp H
  obtain ⟨⟨t171, t172, t173⟩, A20, H⟩ := H
  replace H : ((lex_Scan.f k (⟨#[34, 92, 113, 34]⟩ : ByteArray)).bind fun bt176 => ((lex_Scan.f k (⟨#[39]⟩ : ByteArray)).bind fun bt181 => (if t168 = 0 then (if (t166.length : Int) = 4 then (if 1 < (t166.length : Int) then (if ((rd_T32 t166 1).f1).toList = ([45, 62] : List UInt8) then (if 3 < (t166.length : Int) then (if ((rd_T32 t166 3).f3) = 9 then (if t173 = 24 then (if t172 = 0 then (if bt176.2.2 = 24 then (some (bt181.2.2 == 24)) else (some false)) else (some false)) else (some false)) else (some false)) else (none)) else (some false)) else (none)) else (some false)) else (some false)))) = some r := H
  have A2 := Aside0.mk A20
  clear A20
  replace H := Option.bind_eq_some_iff.mp H
  obtain ⟨⟨t176, t177, t178⟩, A30, H⟩ := H
  replace H : ((lex_Scan.f k (⟨#[39]⟩ : ByteArray)).bind fun bt181 => (if t168 = 0 then (if (t166.length : Int) = 4 then (if 1 < (t166.length : Int) then (if ((rd_T32 t166 1).f1).toList = ([45, 62] : List UInt8) then (if 3 < (t166.length : Int) then (if ((rd_T32 t166 3).f3) = 9 then (if t173 = 24 then (if t172 = 0 then (if t178 = 24 then (some (bt181.2.2 == 24)) else (some false)) else (some false)) else (some false)) else (some false)) else (none)) else (some false)) else (none)) else (some false)) else (some false))) = some r := H
  have A3 := Aside0.mk A30
  clear A30
  replace H := Option.bind_eq_some_iff.mp H
  obtain ⟨⟨t181, t182, t183⟩, A40, H⟩ := H
  replace H : (if t168 = 0 then (if (t166.length : Int) = 4 then (if 1 < (t166.length : Int) then (if ((rd_T32 t166 1).f1).toList = ([45, 62] : List UInt8) then (if 3 < (t166.length : Int) then (if ((rd_T32 t166 3).f3) = 9 then (if t173 = 24 then (if t172 = 0 then (if t178 = 24 then (some (t183 == 24)) else (some false)) else (some false)) else (some false)) else (some false)) else (none)) else (some false)) else (none)) else (some false)) else (some false)) = some r := H
  have A4 := Aside0.mk A40
  clear A40
  by_cases c5 : t168 = 0
  · rw [if_pos c5] at H
    have c5b0 : (t168 == 0) = true := beq_iff_eq.mpr c5
    have c5b1 : (t168 != 0) = false := bne_eq_false_iff_eq.mpr c5
    clear c5
    by_cases c6 : (t166.length : Int) = 4
    · rw [if_pos c6] at H
      have c6b0 : ((t166.length : Int) == 4) = true := beq_iff_eq.mpr c6
      have c6b1 : ((t166.length : Int) != 4) = false := bne_eq_false_iff_eq.mpr c6
      clear c6
      by_cases c7 : 1 < (t166.length : Int)
      · rw [if_pos c7] at H
        have c7b0 : decide (1 < (t166.length : Int)) = true := decide_eq_true c7
        have c7b1 : decide (1 < t166.length) = true := decide_eq_true (by omega)
        clear c7
        by_cases c8 : ((rd_T32 t166 1).f1).toList = ([45, 62] : List UInt8)
        · rw [if_pos c8] at H
          have c8b0 : (((rd_T32 t166 1).f1).toList == ([45, 62] : List UInt8)) = true := beq_iff_eq.mpr c8
          have c8b1 : (((rd_T32 t166 1).f1).toList != ([45, 62] : List UInt8)) = false := bne_eq_false_iff_eq.mpr c8
          clear c8
          by_cases c9 : 3 < (t166.length : Int)
          · rw [if_pos c9] at H
            have c9b0 : decide (3 < (t166.length : Int)) = true := decide_eq_true c9
            have c9b1 : decide (3 < t166.length) = true := decide_eq_true (by omega)
            clear c9
            by_cases c10 : ((rd_T32 t166 3).f3) = 9
            · rw [if_pos c10] at H
              have c10b0 : (((rd_T32 t166 3).f3) == 9) = true := beq_iff_eq.mpr c10
              have c10b1 : (((rd_T32 t166 3).f3) != 9) = false := bne_eq_false_iff_eq.mpr c10
              clear c10
              by_cases c11 : t173 = 24
              · rw [if_pos c11] at H
                have c11b0 : (t173 == 24) = true := beq_iff_eq.mpr c11
                have c11b1 : (t173 != 24) = false := bne_eq_false_iff_eq.mpr c11
                clear c11
                by_cases c12 : t172 = 0
                · rw [if_pos c12] at H
                  have c12b0 : (t172 == 0) = true := beq_iff_eq.mpr c12
                  have c12b1 : (t172 != 0) = false := bne_eq_false_iff_eq.mpr c12
                  clear c12
                  by_cases c13 : t178 = 24
                  · rw [if_pos c13] at H
                    have c13b0 : (t178 == 24) = true := beq_iff_eq.mpr c13
                    have c13b1 : (t178 != 24) = false := bne_eq_false_iff_eq.mpr c13
                    clear c13
                    obtain rfl := Option.some.inj H
                    go_enter Tryd.func7, Tryd.ntmps7
                    go_wp2_with (first | ((with_reducible refine gate_callee (f := 8) rfl ?_); refine goesL_ (some 14) rfl rfl Tryd.func8 (by kernel_rfl) rfl #[.string (⟨#[97, 45, 62, 98, 32, 47, 47, 32, 99]⟩ : ByteArray)] rfl (by (try simp only [List.map_toArray, List.map_cons, List.map_nil]); first | done | rfl | (simp only [List.length_drop, List.length_take]; rfl)) ?_; (with_reducible refine (lex_Scan.calls k (⟨#[97, 45, 62, 98, 32, 47, 47, 32, 99]⟩ : ByteArray) t166 t167 t168 _ A1.out (Tabs.below HT.out (by repeat (first | (with_reducible first | exact HB.out | apply below_alloc | apply pw_below_drewN | apply below_drew1) | exact HB.out)))).mono ?_); rintro e w14 ⟨v169, rfl, ho0, hb⟩; refine ⟨_, rfl, ?_⟩; have n0_ := Aside0.mk (Kd.R_lower ho0 (below_size (by repeat (first | (with_reducible first | exact HB.out | apply below_alloc | apply pw_below_drewN | apply below_drew1) | exact HB.out)))); have n1_ := Aside0.mk (below_step (by repeat (first | (with_reducible first | exact HB.out | apply below_alloc | apply pw_below_drewN | apply below_drew1) | exact HB.out)) hb); clear HB; have HO170 := n0_; have HB := n1_; clear n0_ n1_; (try clear hb); (try clear hb2); (try clear hk); (try clear hi); (try clear ho0)) | ((with_reducible refine gate_callee (f := 8) rfl ?_); refine goesL_ (some 19) rfl rfl Tryd.func8 (by kernel_rfl) rfl #[.string (⟨#[48, 49]⟩ : ByteArray)] rfl (by (try simp only [List.map_toArray, List.map_cons, List.map_nil]); first | done | rfl | (simp only [List.length_drop, List.length_take]; rfl)) ?_; (with_reducible refine (lex_Scan.calls k (⟨#[48, 49]⟩ : ByteArray) t171 t172 t173 _ A2.out (Tabs.below HT.out (by repeat (first | (with_reducible first | exact HB.out | apply below_alloc | apply pw_below_drewN | apply below_drew1) | exact HB.out)))).mono ?_); rintro e w15 ⟨v174, rfl, ho0, hb⟩; refine ⟨_, rfl, ?_⟩; have n0_ := Aside0.mk (Kd.R_elder' (by (with_reducible repeat (first | apply Kd.R_alloc | apply Kd.R_drewN | apply Kd.R_drew)); exact HO170.out) (Kd.R_base ho0) hb); have n1_ := Aside0.mk (Kd.R_lower (Kd.R_new' ho0 (Kd.R_lt (by (with_reducible repeat (first | apply Kd.R_alloc | apply Kd.R_drewN | apply Kd.R_drew)); exact HO170.out))) (below_size (by repeat (first | (with_reducible first | exact HB.out | apply below_alloc | apply pw_below_drewN | apply below_drew1) | exact HB.out)))); have n2_ := Aside0.mk (below_step (by repeat (first | (with_reducible first | exact HB.out | apply below_alloc | apply pw_below_drewN | apply below_drew1) | exact HB.out)) hb); clear HO170; clear HB; have HO170 := n0_; have HO175 := n1_; have HB := n2_; clear n0_ n1_ n2_; (try clear hb); (try clear hb2); (try clear hk); (try clear hi); (try clear ho0)) | ((with_reducible refine gate_callee (f := 8) rfl ?_); refine goesL_ (some 24) rfl rfl Tryd.func8 (by kernel_rfl) rfl #[.string (⟨#[34, 92, 113, 34]⟩ : ByteArray)] rfl (by (try simp only [List.map_toArray, List.map_cons, List.map_nil]); first | done | rfl | (simp only [List.length_drop, List.length_take]; rfl)) ?_; (with_reducible refine (lex_Scan.calls k (⟨#[34, 92, 113, 34]⟩ : ByteArray) t176 t177 t178 _ A3.out (Tabs.below HT.out (by repeat (first | (with_reducible first | exact HB.out | apply below_alloc | apply pw_below_drewN | apply below_drew1) | exact HB.out)))).mono ?_); rintro e w16 ⟨v179, rfl, ho0, hb⟩; refine ⟨_, rfl, ?_⟩; have n0_ := Aside0.mk (Kd.R_elder' (by (with_reducible repeat (first | apply Kd.R_alloc | apply Kd.R_drewN | apply Kd.R_drew)); exact HO170.out) (Kd.R_base ho0) hb); have n1_ := Aside0.mk (Kd.R_elder' (by (with_reducible repeat (first | apply Kd.R_alloc | apply Kd.R_drewN | apply Kd.R_drew)); exact HO175.out) (Kd.R_base ho0) hb); have n2_ := Aside0.mk (Kd.R_lower (Kd.R_new' (Kd.R_new' ho0 (Kd.R_lt (by (with_reducible repeat (first | apply Kd.R_alloc | apply Kd.R_drewN | apply Kd.R_drew)); exact HO170.out))) (Kd.R_lt (by (with_reducible repeat (first | apply Kd.R_alloc | apply Kd.R_drewN | apply Kd.R_drew)); exact HO175.out))) (below_size (by repeat (first | (with_reducible first | exact HB.out | apply below_alloc | apply pw_below_drewN | apply below_drew1) | exact HB.out)))); have n3_ := Aside0.mk (below_step (by repeat (first | (with_reducible first | exact HB.out | apply below_alloc | apply pw_below_drewN | apply below_drew1) | exact HB.out)) hb); clear HO170; clear HO175; clear HB; have HO170 := n0_; have HO175 := n1_; have HO180 := n2_; have HB := n3_; clear n0_ n1_ n2_ n3_; (try clear hb); (try clear hb2); (try clear hk); (try clear hi); (try clear ho0)) | ((with_reducible refine gate_callee (f := 8) rfl ?_); refine goesL_ (some 29) rfl rfl Tryd.func8 (by kernel_rfl) rfl #[.string (⟨#[39]⟩ : ByteArray)] rfl (by (try simp only [List.map_toArray, List.map_cons, List.map_nil]); first | done | rfl | (simp only [List.length_drop, List.length_take]; rfl)) ?_; (with_reducible refine (lex_Scan.calls k (⟨#[39]⟩ : ByteArray) t181 t182 t183 _ A4.out (Tabs.below HT.out (by repeat (first | (with_reducible first | exact HB.out | apply below_alloc | apply pw_below_drewN | apply below_drew1) | exact HB.out)))).mono ?_); rintro e w17 ⟨v184, rfl, ho0, hb⟩; refine ⟨_, rfl, ?_⟩; have n0_ := Aside0.mk (Kd.R_elder' (by (with_reducible repeat (first | apply Kd.R_alloc | apply Kd.R_drewN | apply Kd.R_drew)); exact HO170.out) (Kd.R_base ho0) hb); have n1_ := Aside0.mk (Kd.R_elder' (by (with_reducible repeat (first | apply Kd.R_alloc | apply Kd.R_drewN | apply Kd.R_drew)); exact HO175.out) (Kd.R_base ho0) hb); have n2_ := Aside0.mk (Kd.R_elder' (by (with_reducible repeat (first | apply Kd.R_alloc | apply Kd.R_drewN | apply Kd.R_drew)); exact HO180.out) (Kd.R_base ho0) hb); have n3_ := Aside0.mk (Kd.R_lower (Kd.R_new' (Kd.R_new' (Kd.R_new' ho0 (Kd.R_lt (by (with_reducible repeat (first | apply Kd.R_alloc | apply Kd.R_drewN | apply Kd.R_drew)); exact HO170.out))) (Kd.R_lt (by (with_reducible repeat (first | apply Kd.R_alloc | apply Kd.R_drewN | apply Kd.R_drew)); exact HO175.out))) (Kd.R_lt (by (with_reducible repeat (first | apply Kd.R_alloc | apply Kd.R_drewN | apply Kd.R_drew)); exact HO180.out))) (below_size (by repeat (first | (with_reducible first | exact HB.out | apply below_alloc | apply pw_below_drewN | apply below_drew1) | exact HB.out)))); have n4_ := Aside0.mk (below_step (by repeat (first | (with_reducible first | exact HB.out | apply below_alloc | apply pw_below_drewN | apply below_drew1) | exact HB.out)) hb); clear HO170; clear HO175; clear HO180; clear HB; have HO170 := n0_; have HO175 := n1_; have HO180 := n2_; have HO185 := n3_; have HB := n4_; clear n0_ n1_ n2_ n3_ n4_; (try clear hb); (try clear hb2); (try clear hk); (try clear hi); (try clear ho0); obtain ⟨Ao18, co18, eo18⟩ := Kd.R_slice HO170.out; subst eo18; have p186 : 0 ≤ (1 : Int) := (by omega); have q186 : 1 < (t166.length : Int) := of_decide_eq_true (by first | (with_reducible assumption) | assumption); obtain ⟨ad186, e186, hx186_0, hx186_1, hx186_2, hx186_3⟩ := at_T32 (Kd.R_reads' HO170.out).2.2 1 p186 q186; cases e186; (try simp only [show (1 : Int).toNat = 1 from rfl, Nat.reduceMul, Nat.reduceEqDiff, Go.Addr.add, ↓reduceIte] at hx186_0); (try simp only [show (1 : Int).toNat = 1 from rfl, Nat.reduceMul, Nat.reduceEqDiff, Go.Addr.add, ↓reduceIte] at hx186_1); (try simp only [show (1 : Int).toNat = 1 from rfl, Nat.reduceMul, Nat.reduceEqDiff, Go.Addr.add, ↓reduceIte] at hx186_2); (try simp only [show (1 : Int).toNat = 1 from rfl, Nat.reduceMul, Nat.reduceEqDiff, Go.Addr.add, ↓reduceIte] at hx186_3); have qi186 : (1 < t166.length) = True := eq_true (by omega); (try rw [show ((1 : Int)).toNat = 1 from rfl] at hx186_0); (try rw [show 1 * 4 = 4 from rfl] at hx186_0); (try rw [show ((1 : Int)).toNat = 1 from rfl] at hx186_1); (try rw [show 1 * 4 = 4 from rfl] at hx186_1); (try rw [show ((1 : Int)).toNat = 1 from rfl] at hx186_2); (try rw [show 1 * 4 = 4 from rfl] at hx186_2); (try rw [show ((1 : Int)).toNat = 1 from rfl] at hx186_3); (try rw [show 1 * 4 = 4 from rfl] at hx186_3); replace p186 := eq_true p186; replace q186 := eq_true q186; have p187 : 0 ≤ (3 : Int) := (by omega); have q187 : 3 < (t166.length : Int) := of_decide_eq_true (by first | (with_reducible assumption) | assumption); obtain ⟨ad187, e187, hx187_0, hx187_1, hx187_2, hx187_3⟩ := at_T32 (Kd.R_reads' HO170.out).2.2 3 p187 q187; obtain rfl : ad186 = ad187 := (by injection e187); (try simp only [show (3 : Int).toNat = 3 from rfl, Nat.reduceMul, Nat.reduceEqDiff, Go.Addr.add, ↓reduceIte] at hx187_0); (try simp only [show (3 : Int).toNat = 3 from rfl, Nat.reduceMul, Nat.reduceEqDiff, Go.Addr.add, ↓reduceIte] at hx187_1); (try simp only [show (3 : Int).toNat = 3 from rfl, Nat.reduceMul, Nat.reduceEqDiff, Go.Addr.add, ↓reduceIte] at hx187_2); (try simp only [show (3 : Int).toNat = 3 from rfl, Nat.reduceMul, Nat.reduceEqDiff, Go.Addr.add, ↓reduceIte] at hx187_3); have qi187 : (3 < t166.length) = True := eq_true (by omega); (try rw [show ((3 : Int)).toNat = 3 from rfl] at hx187_0); (try rw [show 3 * 4 = 12 from rfl] at hx187_0); (try rw [show ((3 : Int)).toNat = 3 from rfl] at hx187_1); (try rw [show 3 * 4 = 12 from rfl] at hx187_1); (try rw [show ((3 : Int)).toNat = 3 from rfl] at hx187_2); (try rw [show 3 * 4 = 12 from rfl] at hx187_2); (try rw [show ((3 : Int)).toNat = 3 from rfl] at hx187_3); (try rw [show 3 * 4 = 12 from rfl] at hx187_3); replace p187 := eq_true p187; replace q187 := eq_true q187))
                    go_ret
                    exact ⟨by first | rfl | (simp [errW_none, errW_some] <;> rfl) | (simp [*, errW_none, errW_some] <;> rfl), by repeat (first | (with_reducible first | exact HB.out | apply below_alloc | apply pw_below_drewN | apply below_drew1) | exact HB.out)⟩
                  · rw [if_neg c13] at H
                    have c13b0 : (t178 == 24) = false := beq_eq_false_iff_ne.mpr c13
                    have c13b1 : (t178 != 24) = true := bne_iff_ne.mpr c13
                    obtain rfl := Option.some.inj H
                    go_enter Tryd.func7, Tryd.ntmps7
                    go_wp2_with (first | ((with_reducible refine gate_callee (f := 8) rfl ?_); refine goesL_ (some 14) rfl rfl Tryd.func8 (by kernel_rfl) rfl #[.string (⟨#[97, 45, 62, 98, 32, 47, 47, 32, 99]⟩ : ByteArray)] rfl (by (try simp only [List.map_toArray, List.map_cons, List.map_nil]); first | done | rfl | (simp only [List.length_drop, List.length_take]; rfl)) ?_; (with_reducible refine (lex_Scan.calls k (⟨#[97, 45, 62, 98, 32, 47, 47, 32, 99]⟩ : ByteArray) t166 t167 t168 _ A1.out (Tabs.below HT.out (by repeat (first | (with_reducible first | exact HB.out | apply below_alloc | apply pw_below_drewN | apply below_drew1) | exact HB.out)))).mono ?_); rintro e w19 ⟨v169, rfl, ho0, hb⟩; refine ⟨_, rfl, ?_⟩; have n0_ := Aside0.mk (Kd.R_lower ho0 (below_size (by repeat (first | (with_reducible first | exact HB.out | apply below_alloc | apply pw_below_drewN | apply below_drew1) | exact HB.out)))); have n1_ := Aside0.mk (below_step (by repeat (first | (with_reducible first | exact HB.out | apply below_alloc | apply pw_below_drewN | apply below_drew1) | exact HB.out)) hb); clear HB; have HO170 := n0_; have HB := n1_; clear n0_ n1_; (try clear hb); (try clear hb2); (try clear hk); (try clear hi); (try clear ho0)) | ((with_reducible refine gate_callee (f := 8) rfl ?_); refine goesL_ (some 19) rfl rfl Tryd.func8 (by kernel_rfl) rfl #[.string (⟨#[48, 49]⟩ : ByteArray)] rfl (by (try simp only [List.map_toArray, List.map_cons, List.map_nil]); first | done | rfl | (simp only [List.length_drop, List.length_take]; rfl)) ?_; (with_reducible refine (lex_Scan.calls k (⟨#[48, 49]⟩ : ByteArray) t171 t172 t173 _ A2.out (Tabs.below HT.out (by repeat (first | (with_reducible first | exact HB.out | apply below_alloc | apply pw_below_drewN | apply below_drew1) | exact HB.out)))).mono ?_); rintro e w20 ⟨v174, rfl, ho0, hb⟩; refine ⟨_, rfl, ?_⟩; have n0_ := Aside0.mk (Kd.R_elder' (by (with_reducible repeat (first | apply Kd.R_alloc | apply Kd.R_drewN | apply Kd.R_drew)); exact HO170.out) (Kd.R_base ho0) hb); have n1_ := Aside0.mk (Kd.R_lower (Kd.R_new' ho0 (Kd.R_lt (by (with_reducible repeat (first | apply Kd.R_alloc | apply Kd.R_drewN | apply Kd.R_drew)); exact HO170.out))) (below_size (by repeat (first | (with_reducible first | exact HB.out | apply below_alloc | apply pw_below_drewN | apply below_drew1) | exact HB.out)))); have n2_ := Aside0.mk (below_step (by repeat (first | (with_reducible first | exact HB.out | apply below_alloc | apply pw_below_drewN | apply below_drew1) | exact HB.out)) hb); clear HO170; clear HB; have HO170 := n0_; have HO175 := n1_; have HB := n2_; clear n0_ n1_ n2_; (try clear hb); (try clear hb2); (try clear hk); (try clear hi); (try clear ho0)) | ((with_reducible refine gate_callee (f := 8) rfl ?_); refine goesL_ (some 24) rfl rfl Tryd.func8 (by kernel_rfl) rfl #[.string (⟨#[34, 92, 113, 34]⟩ : ByteArray)] rfl (by (try simp only [List.map_toArray, List.map_cons, List.map_nil]); first | done | rfl | (simp only [List.length_drop, List.length_take]; rfl)) ?_; (with_reducible refine (lex_Scan.calls k (⟨#[34, 92, 113, 34]⟩ : ByteArray) t176 t177 t178 _ A3.out (Tabs.below HT.out (by repeat (first | (with_reducible first | exact HB.out | apply below_alloc | apply pw_below_drewN | apply below_drew1) | exact HB.out)))).mono ?_); rintro e w21 ⟨v179, rfl, ho0, hb⟩; refine ⟨_, rfl, ?_⟩; have n0_ := Aside0.mk (Kd.R_elder' (by (with_reducible repeat (first | apply Kd.R_alloc | apply Kd.R_drewN | apply Kd.R_drew)); exact HO170.out) (Kd.R_base ho0) hb); have n1_ := Aside0.mk (Kd.R_elder' (by (with_reducible repeat (first | apply Kd.R_alloc | apply Kd.R_drewN | apply Kd.R_drew)); exact HO175.out) (Kd.R_base ho0) hb); have n2_ := Aside0.mk (Kd.R_lower (Kd.R_new' (Kd.R_new' ho0 (Kd.R_lt (by (with_reducible repeat (first | apply Kd.R_alloc | apply Kd.R_drewN | apply Kd.R_drew)); exact HO170.out))) (Kd.R_lt (by (with_reducible repeat (first | apply Kd.R_alloc | apply Kd.R_drewN | apply Kd.R_drew)); exact HO175.out))) (below_size (by repeat (first | (with_reducible first | exact HB.out | apply below_alloc | apply pw_below_drewN | apply below_drew1) | exact HB.out)))); have n3_ := Aside0.mk (below_step (by repeat (first | (with_reducible first | exact HB.out | apply below_alloc | apply pw_below_drewN | apply below_drew1) | exact HB.out)) hb); clear HO170; clear HO175; clear HB; have HO170 := n0_; have HO175 := n1_; have HO180 := n2_; have HB := n3_; clear n0_ n1_ n2_ n3_; (try clear hb); (try clear hb2); (try clear hk); (try clear hi); (try clear ho0)) | ((with_reducible refine gate_callee (f := 8) rfl ?_); refine goesL_ (some 29) rfl rfl Tryd.func8 (by kernel_rfl) rfl #[.string (⟨#[39]⟩ : ByteArray)] rfl (by (try simp only [List.map_toArray, List.map_cons, List.map_nil]); first | done | rfl | (simp only [List.length_drop, List.length_take]; rfl)) ?_; (with_reducible refine (lex_Scan.calls k (⟨#[39]⟩ : ByteArray) t181 t182 t183 _ A4.out (Tabs.below HT.out (by repeat (first | (with_reducible first | exact HB.out | apply below_alloc | apply pw_below_drewN | apply below_drew1) | exact HB.out)))).mono ?_); rintro e w22 ⟨v184, rfl, ho0, hb⟩; refine ⟨_, rfl, ?_⟩; have n0_ := Aside0.mk (Kd.R_elder' (by (with_reducible repeat (first | apply Kd.R_alloc | apply Kd.R_drewN | apply Kd.R_drew)); exact HO170.out) (Kd.R_base ho0) hb); have n1_ := Aside0.mk (Kd.R_elder' (by (with_reducible repeat (first | apply Kd.R_alloc | apply Kd.R_drewN | apply Kd.R_drew)); exact HO175.out) (Kd.R_base ho0) hb); have n2_ := Aside0.mk (Kd.R_elder' (by (with_reducible repeat (first | apply Kd.R_alloc | apply Kd.R_drewN | apply Kd.R_drew)); exact HO180.out) (Kd.R_base ho0) hb); have n3_ := Aside0.mk (Kd.R_lower (Kd.R_new' (Kd.R_new' (Kd.R_new' ho0 (Kd.R_lt (by (with_reducible repeat (first | apply Kd.R_alloc | apply Kd.R_drewN | apply Kd.R_drew)); exact HO170.out))) (Kd.R_lt (by (with_reducible repeat (first | apply Kd.R_alloc | apply Kd.R_drewN | apply Kd.R_drew)); exact HO175.out))) (Kd.R_lt (by (with_reducible repeat (first | apply Kd.R_alloc | apply Kd.R_drewN | apply Kd.R_drew)); exact HO180.out))) (below_size (by repeat (first | (with_reducible first | exact HB.out | apply below_alloc | apply pw_below_drewN | apply below_drew1) | exact HB.out)))); have n4_ := Aside0.mk (below_step (by repeat (first | (with_reducible first | exact HB.out | apply below_alloc | apply pw_below_drewN | apply below_drew1) | exact HB.out)) hb); clear HO170; clear HO175; clear HO180; clear HB; have HO170 := n0_; have HO175 := n1_; have HO180 := n2_; have HO185 := n3_; have HB := n4_; clear n0_ n1_ n2_ n3_ n4_; (try clear hb); (try clear hb2); (try clear hk); (try clear hi); (try clear ho0); obtain ⟨Ao23, co23, eo23⟩ := Kd.R_slice HO170.out; subst eo23; have p186 : 0 ≤ (1 : Int) := (by omega); have q186 : 1 < (t166.length : Int) := of_decide_eq_true (by first | (with_reducible assumption) | assumption); obtain ⟨ad186, e186, hx186_0, hx186_1, hx186_2, hx186_3⟩ := at_T32 (Kd.R_reads' HO170.out).2.2 1 p186 q186; cases e186; (try simp only [show (1 : Int).toNat = 1 from rfl, Nat.reduceMul, Nat.reduceEqDiff, Go.Addr.add, ↓reduceIte] at hx186_0); (try simp only [show (1 : Int).toNat = 1 from rfl, Nat.reduceMul, Nat.reduceEqDiff, Go.Addr.add, ↓reduceIte] at hx186_1); (try simp only [show (1 : Int).toNat = 1 from rfl, Nat.reduceMul, Nat.reduceEqDiff, Go.Addr.add, ↓reduceIte] at hx186_2); (try simp only [show (1 : Int).toNat = 1 from rfl, Nat.reduceMul, Nat.reduceEqDiff, Go.Addr.add, ↓reduceIte] at hx186_3); have qi186 : (1 < t166.length) = True := eq_true (by omega); (try rw [show ((1 : Int)).toNat = 1 from rfl] at hx186_0); (try rw [show 1 * 4 = 4 from rfl] at hx186_0); (try rw [show ((1 : Int)).toNat = 1 from rfl] at hx186_1); (try rw [show 1 * 4 = 4 from rfl] at hx186_1); (try rw [show ((1 : Int)).toNat = 1 from rfl] at hx186_2); (try rw [show 1 * 4 = 4 from rfl] at hx186_2); (try rw [show ((1 : Int)).toNat = 1 from rfl] at hx186_3); (try rw [show 1 * 4 = 4 from rfl] at hx186_3); replace p186 := eq_true p186; replace q186 := eq_true q186; have p187 : 0 ≤ (3 : Int) := (by omega); have q187 : 3 < (t166.length : Int) := of_decide_eq_true (by first | (with_reducible assumption) | assumption); obtain ⟨ad187, e187, hx187_0, hx187_1, hx187_2, hx187_3⟩ := at_T32 (Kd.R_reads' HO170.out).2.2 3 p187 q187; obtain rfl : ad186 = ad187 := (by injection e187); (try simp only [show (3 : Int).toNat = 3 from rfl, Nat.reduceMul, Nat.reduceEqDiff, Go.Addr.add, ↓reduceIte] at hx187_0); (try simp only [show (3 : Int).toNat = 3 from rfl, Nat.reduceMul, Nat.reduceEqDiff, Go.Addr.add, ↓reduceIte] at hx187_1); (try simp only [show (3 : Int).toNat = 3 from rfl, Nat.reduceMul, Nat.reduceEqDiff, Go.Addr.add, ↓reduceIte] at hx187_2); (try simp only [show (3 : Int).toNat = 3 from rfl, Nat.reduceMul, Nat.reduceEqDiff, Go.Addr.add, ↓reduceIte] at hx187_3); have qi187 : (3 < t166.length) = True := eq_true (by omega); (try rw [show ((3 : Int)).toNat = 3 from rfl] at hx187_0); (try rw [show 3 * 4 = 12 from rfl] at hx187_0); (try rw [show ((3 : Int)).toNat = 3 from rfl] at hx187_1); (try rw [show 3 * 4 = 12 from rfl] at hx187_1); (try rw [show ((3 : Int)).toNat = 3 from rfl] at hx187_2); (try rw [show 3 * 4 = 12 from rfl] at hx187_2); (try rw [show ((3 : Int)).toNat = 3 from rfl] at hx187_3); (try rw [show 3 * 4 = 12 from rfl] at hx187_3); replace p187 := eq_true p187; replace q187 := eq_true q187))
                    go_ret
                    exact ⟨by first | rfl | (simp [errW_none, errW_some] <;> rfl) | (simp [*, errW_none, errW_some] <;> rfl), by repeat (first | (with_reducible first | exact HB.out | apply below_alloc | apply pw_below_drewN | apply below_drew1) | exact HB.out)⟩
                · rw [if_neg c12] at H
                  have c12b0 : (t172 == 0) = false := beq_eq_false_iff_ne.mpr c12
                  have c12b1 : (t172 != 0) = true := bne_iff_ne.mpr c12
                  obtain rfl := Option.some.inj H
                  go_enter Tryd.func7, Tryd.ntmps7
                  go_wp2_with (first | ((with_reducible refine gate_callee (f := 8) rfl ?_); refine goesL_ (some 14) rfl rfl Tryd.func8 (by kernel_rfl) rfl #[.string (⟨#[97, 45, 62, 98, 32, 47, 47, 32, 99]⟩ : ByteArray)] rfl (by (try simp only [List.map_toArray, List.map_cons, List.map_nil]); first | done | rfl | (simp only [List.length_drop, List.length_take]; rfl)) ?_; (with_reducible refine (lex_Scan.calls k (⟨#[97, 45, 62, 98, 32, 47, 47, 32, 99]⟩ : ByteArray) t166 t167 t168 _ A1.out (Tabs.below HT.out (by repeat (first | (with_reducible first | exact HB.out | apply below_alloc | apply pw_below_drewN | apply below_drew1) | exact HB.out)))).mono ?_); rintro e w24 ⟨v169, rfl, ho0, hb⟩; refine ⟨_, rfl, ?_⟩; have n0_ := Aside0.mk (Kd.R_lower ho0 (below_size (by repeat (first | (with_reducible first | exact HB.out | apply below_alloc | apply pw_below_drewN | apply below_drew1) | exact HB.out)))); have n1_ := Aside0.mk (below_step (by repeat (first | (with_reducible first | exact HB.out | apply below_alloc | apply pw_below_drewN | apply below_drew1) | exact HB.out)) hb); clear HB; have HO170 := n0_; have HB := n1_; clear n0_ n1_; (try clear hb); (try clear hb2); (try clear hk); (try clear hi); (try clear ho0)) | ((with_reducible refine gate_callee (f := 8) rfl ?_); refine goesL_ (some 19) rfl rfl Tryd.func8 (by kernel_rfl) rfl #[.string (⟨#[48, 49]⟩ : ByteArray)] rfl (by (try simp only [List.map_toArray, List.map_cons, List.map_nil]); first | done | rfl | (simp only [List.length_drop, List.length_take]; rfl)) ?_; (with_reducible refine (lex_Scan.calls k (⟨#[48, 49]⟩ : ByteArray) t171 t172 t173 _ A2.out (Tabs.below HT.out (by repeat (first | (with_reducible first | exact HB.out | apply below_alloc | apply pw_below_drewN | apply below_drew1) | exact HB.out)))).mono ?_); rintro e w25 ⟨v174, rfl, ho0, hb⟩; refine ⟨_, rfl, ?_⟩; have n0_ := Aside0.mk (Kd.R_elder' (by (with_reducible repeat (first | apply Kd.R_alloc | apply Kd.R_drewN | apply Kd.R_drew)); exact HO170.out) (Kd.R_base ho0) hb); have n1_ := Aside0.mk (Kd.R_lower (Kd.R_new' ho0 (Kd.R_lt (by (with_reducible repeat (first | apply Kd.R_alloc | apply Kd.R_drewN | apply Kd.R_drew)); exact HO170.out))) (below_size (by repeat (first | (with_reducible first | exact HB.out | apply below_alloc | apply pw_below_drewN | apply below_drew1) | exact HB.out)))); have n2_ := Aside0.mk (below_step (by repeat (first | (with_reducible first | exact HB.out | apply below_alloc | apply pw_below_drewN | apply below_drew1) | exact HB.out)) hb); clear HO170; clear HB; have HO170 := n0_; have HO175 := n1_; have HB := n2_; clear n0_ n1_ n2_; (try clear hb); (try clear hb2); (try clear hk); (try clear hi); (try clear ho0)) | ((with_reducible refine gate_callee (f := 8) rfl ?_); refine goesL_ (some 24) rfl rfl Tryd.func8 (by kernel_rfl) rfl #[.string (⟨#[34, 92, 113, 34]⟩ : ByteArray)] rfl (by (try simp only [List.map_toArray, List.map_cons, List.map_nil]); first | done | rfl | (simp only [List.length_drop, List.length_take]; rfl)) ?_; (with_reducible refine (lex_Scan.calls k (⟨#[34, 92, 113, 34]⟩ : ByteArray) t176 t177 t178 _ A3.out (Tabs.below HT.out (by repeat (first | (with_reducible first | exact HB.out | apply below_alloc | apply pw_below_drewN | apply below_drew1) | exact HB.out)))).mono ?_); rintro e w26 ⟨v179, rfl, ho0, hb⟩; refine ⟨_, rfl, ?_⟩; have n0_ := Aside0.mk (Kd.R_elder' (by (with_reducible repeat (first | apply Kd.R_alloc | apply Kd.R_drewN | apply Kd.R_drew)); exact HO170.out) (Kd.R_base ho0) hb); have n1_ := Aside0.mk (Kd.R_elder' (by (with_reducible repeat (first | apply Kd.R_alloc | apply Kd.R_drewN | apply Kd.R_drew)); exact HO175.out) (Kd.R_base ho0) hb); have n2_ := Aside0.mk (Kd.R_lower (Kd.R_new' (Kd.R_new' ho0 (Kd.R_lt (by (with_reducible repeat (first | apply Kd.R_alloc | apply Kd.R_drewN | apply Kd.R_drew)); exact HO170.out))) (Kd.R_lt (by (with_reducible repeat (first | apply Kd.R_alloc | apply Kd.R_drewN | apply Kd.R_drew)); exact HO175.out))) (below_size (by repeat (first | (with_reducible first | exact HB.out | apply below_alloc | apply pw_below_drewN | apply below_drew1) | exact HB.out)))); have n3_ := Aside0.mk (below_step (by repeat (first | (with_reducible first | exact HB.out | apply below_alloc | apply pw_below_drewN | apply below_drew1) | exact HB.out)) hb); clear HO170; clear HO175; clear HB; have HO170 := n0_; have HO175 := n1_; have HO180 := n2_; have HB := n3_; clear n0_ n1_ n2_ n3_; (try clear hb); (try clear hb2); (try clear hk); (try clear hi); (try clear ho0)) | ((with_reducible refine gate_callee (f := 8) rfl ?_); refine goesL_ (some 29) rfl rfl Tryd.func8 (by kernel_rfl) rfl #[.string (⟨#[39]⟩ : ByteArray)] rfl (by (try simp only [List.map_toArray, List.map_cons, List.map_nil]); first | done | rfl | (simp only [List.length_drop, List.length_take]; rfl)) ?_; (with_reducible refine (lex_Scan.calls k (⟨#[39]⟩ : ByteArray) t181 t182 t183 _ A4.out (Tabs.below HT.out (by repeat (first | (with_reducible first | exact HB.out | apply below_alloc | apply pw_below_drewN | apply below_drew1) | exact HB.out)))).mono ?_); rintro e w27 ⟨v184, rfl, ho0, hb⟩; refine ⟨_, rfl, ?_⟩; have n0_ := Aside0.mk (Kd.R_elder' (by (with_reducible repeat (first | apply Kd.R_alloc | apply Kd.R_drewN | apply Kd.R_drew)); exact HO170.out) (Kd.R_base ho0) hb); have n1_ := Aside0.mk (Kd.R_elder' (by (with_reducible repeat (first | apply Kd.R_alloc | apply Kd.R_drewN | apply Kd.R_drew)); exact HO175.out) (Kd.R_base ho0) hb); have n2_ := Aside0.mk (Kd.R_elder' (by (with_reducible repeat (first | apply Kd.R_alloc | apply Kd.R_drewN | apply Kd.R_drew)); exact HO180.out) (Kd.R_base ho0) hb); have n3_ := Aside0.mk (Kd.R_lower (Kd.R_new' (Kd.R_new' (Kd.R_new' ho0 (Kd.R_lt (by (with_reducible repeat (first | apply Kd.R_alloc | apply Kd.R_drewN | apply Kd.R_drew)); exact HO170.out))) (Kd.R_lt (by (with_reducible repeat (first | apply Kd.R_alloc | apply Kd.R_drewN | apply Kd.R_drew)); exact HO175.out))) (Kd.R_lt (by (with_reducible repeat (first | apply Kd.R_alloc | apply Kd.R_drewN | apply Kd.R_drew)); exact HO180.out))) (below_size (by repeat (first | (with_reducible first | exact HB.out | apply below_alloc | apply pw_below_drewN | apply below_drew1) | exact HB.out)))); have n4_ := Aside0.mk (below_step (by repeat (first | (with_reducible first | exact HB.out | apply below_alloc | apply pw_below_drewN | apply below_drew1) | exact HB.out)) hb); clear HO170; clear HO175; clear HO180; clear HB; have HO170 := n0_; have HO175 := n1_; have HO180 := n2_; have HO185 := n3_; have HB := n4_; clear n0_ n1_ n2_ n3_ n4_; (try clear hb); (try clear hb2); (try clear hk); (try clear hi); (try clear ho0); obtain ⟨Ao28, co28, eo28⟩ := Kd.R_slice HO170.out; subst eo28; have p186 : 0 ≤ (1 : Int) := (by omega); have q186 : 1 < (t166.length : Int) := of_decide_eq_true (by first | (with_reducible assumption) | assumption); obtain ⟨ad186, e186, hx186_0, hx186_1, hx186_2, hx186_3⟩ := at_T32 (Kd.R_reads' HO170.out).2.2 1 p186 q186; cases e186; (try simp only [show (1 : Int).toNat = 1 from rfl, Nat.reduceMul, Nat.reduceEqDiff, Go.Addr.add, ↓reduceIte] at hx186_0); (try simp only [show (1 : Int).toNat = 1 from rfl, Nat.reduceMul, Nat.reduceEqDiff, Go.Addr.add, ↓reduceIte] at hx186_1); (try simp only [show (1 : Int).toNat = 1 from rfl, Nat.reduceMul, Nat.reduceEqDiff, Go.Addr.add, ↓reduceIte] at hx186_2); (try simp only [show (1 : Int).toNat = 1 from rfl, Nat.reduceMul, Nat.reduceEqDiff, Go.Addr.add, ↓reduceIte] at hx186_3); have qi186 : (1 < t166.length) = True := eq_true (by omega); (try rw [show ((1 : Int)).toNat = 1 from rfl] at hx186_0); (try rw [show 1 * 4 = 4 from rfl] at hx186_0); (try rw [show ((1 : Int)).toNat = 1 from rfl] at hx186_1); (try rw [show 1 * 4 = 4 from rfl] at hx186_1); (try rw [show ((1 : Int)).toNat = 1 from rfl] at hx186_2); (try rw [show 1 * 4 = 4 from rfl] at hx186_2); (try rw [show ((1 : Int)).toNat = 1 from rfl] at hx186_3); (try rw [show 1 * 4 = 4 from rfl] at hx186_3); replace p186 := eq_true p186; replace q186 := eq_true q186; have p187 : 0 ≤ (3 : Int) := (by omega); have q187 : 3 < (t166.length : Int) := of_decide_eq_true (by first | (with_reducible assumption) | assumption); obtain ⟨ad187, e187, hx187_0, hx187_1, hx187_2, hx187_3⟩ := at_T32 (Kd.R_reads' HO170.out).2.2 3 p187 q187; obtain rfl : ad186 = ad187 := (by injection e187); (try simp only [show (3 : Int).toNat = 3 from rfl, Nat.reduceMul, Nat.reduceEqDiff, Go.Addr.add, ↓reduceIte] at hx187_0); (try simp only [show (3 : Int).toNat = 3 from rfl, Nat.reduceMul, Nat.reduceEqDiff, Go.Addr.add, ↓reduceIte] at hx187_1); (try simp only [show (3 : Int).toNat = 3 from rfl, Nat.reduceMul, Nat.reduceEqDiff, Go.Addr.add, ↓reduceIte] at hx187_2); (try simp only [show (3 : Int).toNat = 3 from rfl, Nat.reduceMul, Nat.reduceEqDiff, Go.Addr.add, ↓reduceIte] at hx187_3); have qi187 : (3 < t166.length) = True := eq_true (by omega); (try rw [show ((3 : Int)).toNat = 3 from rfl] at hx187_0); (try rw [show 3 * 4 = 12 from rfl] at hx187_0); (try rw [show ((3 : Int)).toNat = 3 from rfl] at hx187_1); (try rw [show 3 * 4 = 12 from rfl] at hx187_1); (try rw [show ((3 : Int)).toNat = 3 from rfl] at hx187_2); (try rw [show 3 * 4 = 12 from rfl] at hx187_2); (try rw [show ((3 : Int)).toNat = 3 from rfl] at hx187_3); (try rw [show 3 * 4 = 12 from rfl] at hx187_3); replace p187 := eq_true p187; replace q187 := eq_true q187))
                  go_ret
                  exact ⟨by first | rfl | (simp [errW_none, errW_some] <;> rfl) | (simp [*, errW_none, errW_some] <;> rfl), by repeat (first | (with_reducible first | exact HB.out | apply below_alloc | apply pw_below_drewN | apply below_drew1) | exact HB.out)⟩
              · rw [if_neg c11] at H
                have c11b0 : (t173 == 24) = false := beq_eq_false_iff_ne.mpr c11
                have c11b1 : (t173 != 24) = true := bne_iff_ne.mpr c11
                obtain rfl := Option.some.inj H
                go_enter Tryd.func7, Tryd.ntmps7
                go_wp2_with (first | ((with_reducible refine gate_callee (f := 8) rfl ?_); refine goesL_ (some 14) rfl rfl Tryd.func8 (by kernel_rfl) rfl #[.string (⟨#[97, 45, 62, 98, 32, 47, 47, 32, 99]⟩ : ByteArray)] rfl (by (try simp only [List.map_toArray, List.map_cons, List.map_nil]); first | done | rfl | (simp only [List.length_drop, List.length_take]; rfl)) ?_; (with_reducible refine (lex_Scan.calls k (⟨#[97, 45, 62, 98, 32, 47, 47, 32, 99]⟩ : ByteArray) t166 t167 t168 _ A1.out (Tabs.below HT.out (by repeat (first | (with_reducible first | exact HB.out | apply below_alloc | apply pw_below_drewN | apply below_drew1) | exact HB.out)))).mono ?_); rintro e w29 ⟨v169, rfl, ho0, hb⟩; refine ⟨_, rfl, ?_⟩; have n0_ := Aside0.mk (Kd.R_lower ho0 (below_size (by repeat (first | (with_reducible first | exact HB.out | apply below_alloc | apply pw_below_drewN | apply below_drew1) | exact HB.out)))); have n1_ := Aside0.mk (below_step (by repeat (first | (with_reducible first | exact HB.out | apply below_alloc | apply pw_below_drewN | apply below_drew1) | exact HB.out)) hb); clear HB; have HO170 := n0_; have HB := n1_; clear n0_ n1_; (try clear hb); (try clear hb2); (try clear hk); (try clear hi); (try clear ho0)) | ((with_reducible refine gate_callee (f := 8) rfl ?_); refine goesL_ (some 19) rfl rfl Tryd.func8 (by kernel_rfl) rfl #[.string (⟨#[48, 49]⟩ : ByteArray)] rfl (by (try simp only [List.map_toArray, List.map_cons, List.map_nil]); first | done | rfl | (simp only [List.length_drop, List.length_take]; rfl)) ?_; (with_reducible refine (lex_Scan.calls k (⟨#[48, 49]⟩ : ByteArray) t171 t172 t173 _ A2.out (Tabs.below HT.out (by repeat (first | (with_reducible first | exact HB.out | apply below_alloc | apply pw_below_drewN | apply below_drew1) | exact HB.out)))).mono ?_); rintro e w30 ⟨v174, rfl, ho0, hb⟩; refine ⟨_, rfl, ?_⟩; have n0_ := Aside0.mk (Kd.R_elder' (by (with_reducible repeat (first | apply Kd.R_alloc | apply Kd.R_drewN | apply Kd.R_drew)); exact HO170.out) (Kd.R_base ho0) hb); have n1_ := Aside0.mk (Kd.R_lower (Kd.R_new' ho0 (Kd.R_lt (by (with_reducible repeat (first | apply Kd.R_alloc | apply Kd.R_drewN | apply Kd.R_drew)); exact HO170.out))) (below_size (by repeat (first | (with_reducible first | exact HB.out | apply below_alloc | apply pw_below_drewN | apply below_drew1) | exact HB.out)))); have n2_ := Aside0.mk (below_step (by repeat (first | (with_reducible first | exact HB.out | apply below_alloc | apply pw_below_drewN | apply below_drew1) | exact HB.out)) hb); clear HO170; clear HB; have HO170 := n0_; have HO175 := n1_; have HB := n2_; clear n0_ n1_ n2_; (try clear hb); (try clear hb2); (try clear hk); (try clear hi); (try clear ho0)) | ((with_reducible refine gate_callee (f := 8) rfl ?_); refine goesL_ (some 24) rfl rfl Tryd.func8 (by kernel_rfl) rfl #[.string (⟨#[34, 92, 113, 34]⟩ : ByteArray)] rfl (by (try simp only [List.map_toArray, List.map_cons, List.map_nil]); first | done | rfl | (simp only [List.length_drop, List.length_take]; rfl)) ?_; (with_reducible refine (lex_Scan.calls k (⟨#[34, 92, 113, 34]⟩ : ByteArray) t176 t177 t178 _ A3.out (Tabs.below HT.out (by repeat (first | (with_reducible first | exact HB.out | apply below_alloc | apply pw_below_drewN | apply below_drew1) | exact HB.out)))).mono ?_); rintro e w31 ⟨v179, rfl, ho0, hb⟩; refine ⟨_, rfl, ?_⟩; have n0_ := Aside0.mk (Kd.R_elder' (by (with_reducible repeat (first | apply Kd.R_alloc | apply Kd.R_drewN | apply Kd.R_drew)); exact HO170.out) (Kd.R_base ho0) hb); have n1_ := Aside0.mk (Kd.R_elder' (by (with_reducible repeat (first | apply Kd.R_alloc | apply Kd.R_drewN | apply Kd.R_drew)); exact HO175.out) (Kd.R_base ho0) hb); have n2_ := Aside0.mk (Kd.R_lower (Kd.R_new' (Kd.R_new' ho0 (Kd.R_lt (by (with_reducible repeat (first | apply Kd.R_alloc | apply Kd.R_drewN | apply Kd.R_drew)); exact HO170.out))) (Kd.R_lt (by (with_reducible repeat (first | apply Kd.R_alloc | apply Kd.R_drewN | apply Kd.R_drew)); exact HO175.out))) (below_size (by repeat (first | (with_reducible first | exact HB.out | apply below_alloc | apply pw_below_drewN | apply below_drew1) | exact HB.out)))); have n3_ := Aside0.mk (below_step (by repeat (first | (with_reducible first | exact HB.out | apply below_alloc | apply pw_below_drewN | apply below_drew1) | exact HB.out)) hb); clear HO170; clear HO175; clear HB; have HO170 := n0_; have HO175 := n1_; have HO180 := n2_; have HB := n3_; clear n0_ n1_ n2_ n3_; (try clear hb); (try clear hb2); (try clear hk); (try clear hi); (try clear ho0)) | ((with_reducible refine gate_callee (f := 8) rfl ?_); refine goesL_ (some 29) rfl rfl Tryd.func8 (by kernel_rfl) rfl #[.string (⟨#[39]⟩ : ByteArray)] rfl (by (try simp only [List.map_toArray, List.map_cons, List.map_nil]); first | done | rfl | (simp only [List.length_drop, List.length_take]; rfl)) ?_; (with_reducible refine (lex_Scan.calls k (⟨#[39]⟩ : ByteArray) t181 t182 t183 _ A4.out (Tabs.below HT.out (by repeat (first | (with_reducible first | exact HB.out | apply below_alloc | apply pw_below_drewN | apply below_drew1) | exact HB.out)))).mono ?_); rintro e w32 ⟨v184, rfl, ho0, hb⟩; refine ⟨_, rfl, ?_⟩; have n0_ := Aside0.mk (Kd.R_elder' (by (with_reducible repeat (first | apply Kd.R_alloc | apply Kd.R_drewN | apply Kd.R_drew)); exact HO170.out) (Kd.R_base ho0) hb); have n1_ := Aside0.mk (Kd.R_elder' (by (with_reducible repeat (first | apply Kd.R_alloc | apply Kd.R_drewN | apply Kd.R_drew)); exact HO175.out) (Kd.R_base ho0) hb); have n2_ := Aside0.mk (Kd.R_elder' (by (with_reducible repeat (first | apply Kd.R_alloc | apply Kd.R_drewN | apply Kd.R_drew)); exact HO180.out) (Kd.R_base ho0) hb); have n3_ := Aside0.mk (Kd.R_lower (Kd.R_new' (Kd.R_new' (Kd.R_new' ho0 (Kd.R_lt (by (with_reducible repeat (first | apply Kd.R_alloc | apply Kd.R_drewN | apply Kd.R_drew)); exact HO170.out))) (Kd.R_lt (by (with_reducible repeat (first | apply Kd.R_alloc | apply Kd.R_drewN | apply Kd.R_drew)); exact HO175.out))) (Kd.R_lt (by (with_reducible repeat (first | apply Kd.R_alloc | apply Kd.R_drewN | apply Kd.R_drew)); exact HO180.out))) (below_size (by repeat (first | (with_reducible first | exact HB.out | apply below_alloc | apply pw_below_drewN | apply below_drew1) | exact HB.out)))); have n4_ := Aside0.mk (below_step (by repeat (first | (with_reducible first | exact HB.out | apply below_alloc | apply pw_below_drewN | apply below_drew1) | exact HB.out)) hb); clear HO170; clear HO175; clear HO180; clear HB; have HO170 := n0_; have HO175 := n1_; have HO180 := n2_; have HO185 := n3_; have HB := n4_; clear n0_ n1_ n2_ n3_ n4_; (try clear hb); (try clear hb2); (try clear hk); (try clear hi); (try clear ho0); obtain ⟨Ao33, co33, eo33⟩ := Kd.R_slice HO170.out; subst eo33; have p186 : 0 ≤ (1 : Int) := (by omega); have q186 : 1 < (t166.length : Int) := of_decide_eq_true (by first | (with_reducible assumption) | assumption); obtain ⟨ad186, e186, hx186_0, hx186_1, hx186_2, hx186_3⟩ := at_T32 (Kd.R_reads' HO170.out).2.2 1 p186 q186; cases e186; (try simp only [show (1 : Int).toNat = 1 from rfl, Nat.reduceMul, Nat.reduceEqDiff, Go.Addr.add, ↓reduceIte] at hx186_0); (try simp only [show (1 : Int).toNat = 1 from rfl, Nat.reduceMul, Nat.reduceEqDiff, Go.Addr.add, ↓reduceIte] at hx186_1); (try simp only [show (1 : Int).toNat = 1 from rfl, Nat.reduceMul, Nat.reduceEqDiff, Go.Addr.add, ↓reduceIte] at hx186_2); (try simp only [show (1 : Int).toNat = 1 from rfl, Nat.reduceMul, Nat.reduceEqDiff, Go.Addr.add, ↓reduceIte] at hx186_3); have qi186 : (1 < t166.length) = True := eq_true (by omega); (try rw [show ((1 : Int)).toNat = 1 from rfl] at hx186_0); (try rw [show 1 * 4 = 4 from rfl] at hx186_0); (try rw [show ((1 : Int)).toNat = 1 from rfl] at hx186_1); (try rw [show 1 * 4 = 4 from rfl] at hx186_1); (try rw [show ((1 : Int)).toNat = 1 from rfl] at hx186_2); (try rw [show 1 * 4 = 4 from rfl] at hx186_2); (try rw [show ((1 : Int)).toNat = 1 from rfl] at hx186_3); (try rw [show 1 * 4 = 4 from rfl] at hx186_3); replace p186 := eq_true p186; replace q186 := eq_true q186; have p187 : 0 ≤ (3 : Int) := (by omega); have q187 : 3 < (t166.length : Int) := of_decide_eq_true (by first | (with_reducible assumption) | assumption); obtain ⟨ad187, e187, hx187_0, hx187_1, hx187_2, hx187_3⟩ := at_T32 (Kd.R_reads' HO170.out).2.2 3 p187 q187; obtain rfl : ad186 = ad187 := (by injection e187); (try simp only [show (3 : Int).toNat = 3 from rfl, Nat.reduceMul, Nat.reduceEqDiff, Go.Addr.add, ↓reduceIte] at hx187_0); (try simp only [show (3 : Int).toNat = 3 from rfl, Nat.reduceMul, Nat.reduceEqDiff, Go.Addr.add, ↓reduceIte] at hx187_1); (try simp only [show (3 : Int).toNat = 3 from rfl, Nat.reduceMul, Nat.reduceEqDiff, Go.Addr.add, ↓reduceIte] at hx187_2); (try simp only [show (3 : Int).toNat = 3 from rfl, Nat.reduceMul, Nat.reduceEqDiff, Go.Addr.add, ↓reduceIte] at hx187_3); have qi187 : (3 < t166.length) = True := eq_true (by omega); (try rw [show ((3 : Int)).toNat = 3 from rfl] at hx187_0); (try rw [show 3 * 4 = 12 from rfl] at hx187_0); (try rw [show ((3 : Int)).toNat = 3 from rfl] at hx187_1); (try rw [show 3 * 4 = 12 from rfl] at hx187_1); (try rw [show ((3 : Int)).toNat = 3 from rfl] at hx187_2); (try rw [show 3 * 4 = 12 from rfl] at hx187_2); (try rw [show ((3 : Int)).toNat = 3 from rfl] at hx187_3); (try rw [show 3 * 4 = 12 from rfl] at hx187_3); replace p187 := eq_true p187; replace q187 := eq_true q187))
                go_ret
                exact ⟨by first | rfl | (simp [errW_none, errW_some] <;> rfl) | (simp [*, errW_none, errW_some] <;> rfl), by repeat (first | (with_reducible first | exact HB.out | apply below_alloc | apply pw_below_drewN | apply below_drew1) | exact HB.out)⟩
            · rw [if_neg c10] at H
              have c10b0 : (((rd_T32 t166 3).f3) == 9) = false := beq_eq_false_iff_ne.mpr c10
              have c10b1 : (((rd_T32 t166 3).f3) != 9) = true := bne_iff_ne.mpr c10
              obtain rfl := Option.some.inj H
              go_enter Tryd.func7, Tryd.ntmps7
              go_wp2_with (first | ((with_reducible refine gate_callee (f := 8) rfl ?_); refine goesL_ (some 14) rfl rfl Tryd.func8 (by kernel_rfl) rfl #[.string (⟨#[97, 45, 62, 98, 32, 47, 47, 32, 99]⟩ : ByteArray)] rfl (by (try simp only [List.map_toArray, List.map_cons, List.map_nil]); first | done | rfl | (simp only [List.length_drop, List.length_take]; rfl)) ?_; (with_reducible refine (lex_Scan.calls k (⟨#[97, 45, 62, 98, 32, 47, 47, 32, 99]⟩ : ByteArray) t166 t167 t168 _ A1.out (Tabs.below HT.out (by repeat (first | (with_reducible first | exact HB.out | apply below_alloc | apply pw_below_drewN | apply below_drew1) | exact HB.out)))).mono ?_); rintro e w34 ⟨v169, rfl, ho0, hb⟩; refine ⟨_, rfl, ?_⟩; have n0_ := Aside0.mk (Kd.R_lower ho0 (below_size (by repeat (first | (with_reducible first | exact HB.out | apply below_alloc | apply pw_below_drewN | apply below_drew1) | exact HB.out)))); have n1_ := Aside0.mk (below_step (by repeat (first | (with_reducible first | exact HB.out | apply below_alloc | apply pw_below_drewN | apply below_drew1) | exact HB.out)) hb); clear HB; have HO170 := n0_; have HB := n1_; clear n0_ n1_; (try clear hb); (try clear hb2); (try clear hk); (try clear hi); (try clear ho0)) | ((with_reducible refine gate_callee (f := 8) rfl ?_); refine goesL_ (some 19) rfl rfl Tryd.func8 (by kernel_rfl) rfl #[.string (⟨#[48, 49]⟩ : ByteArray)] rfl (by (try simp only [List.map_toArray, List.map_cons, List.map_nil]); first | done | rfl | (simp only [List.length_drop, List.length_take]; rfl)) ?_; (with_reducible refine (lex_Scan.calls k (⟨#[48, 49]⟩ : ByteArray) t171 t172 t173 _ A2.out (Tabs.below HT.out (by repeat (first | (with_reducible first | exact HB.out | apply below_alloc | apply pw_below_drewN | apply below_drew1) | exact HB.out)))).mono ?_); rintro e w35 ⟨v174, rfl, ho0, hb⟩; refine ⟨_, rfl, ?_⟩; have n0_ := Aside0.mk (Kd.R_elder' (by (with_reducible repeat (first | apply Kd.R_alloc | apply Kd.R_drewN | apply Kd.R_drew)); exact HO170.out) (Kd.R_base ho0) hb); have n1_ := Aside0.mk (Kd.R_lower (Kd.R_new' ho0 (Kd.R_lt (by (with_reducible repeat (first | apply Kd.R_alloc | apply Kd.R_drewN | apply Kd.R_drew)); exact HO170.out))) (below_size (by repeat (first | (with_reducible first | exact HB.out | apply below_alloc | apply pw_below_drewN | apply below_drew1) | exact HB.out)))); have n2_ := Aside0.mk (below_step (by repeat (first | (with_reducible first | exact HB.out | apply below_alloc | apply pw_below_drewN | apply below_drew1) | exact HB.out)) hb); clear HO170; clear HB; have HO170 := n0_; have HO175 := n1_; have HB := n2_; clear n0_ n1_ n2_; (try clear hb); (try clear hb2); (try clear hk); (try clear hi); (try clear ho0)) | ((with_reducible refine gate_callee (f := 8) rfl ?_); refine goesL_ (some 24) rfl rfl Tryd.func8 (by kernel_rfl) rfl #[.string (⟨#[34, 92, 113, 34]⟩ : ByteArray)] rfl (by (try simp only [List.map_toArray, List.map_cons, List.map_nil]); first | done | rfl | (simp only [List.length_drop, List.length_take]; rfl)) ?_; (with_reducible refine (lex_Scan.calls k (⟨#[34, 92, 113, 34]⟩ : ByteArray) t176 t177 t178 _ A3.out (Tabs.below HT.out (by repeat (first | (with_reducible first | exact HB.out | apply below_alloc | apply pw_below_drewN | apply below_drew1) | exact HB.out)))).mono ?_); rintro e w36 ⟨v179, rfl, ho0, hb⟩; refine ⟨_, rfl, ?_⟩; have n0_ := Aside0.mk (Kd.R_elder' (by (with_reducible repeat (first | apply Kd.R_alloc | apply Kd.R_drewN | apply Kd.R_drew)); exact HO170.out) (Kd.R_base ho0) hb); have n1_ := Aside0.mk (Kd.R_elder' (by (with_reducible repeat (first | apply Kd.R_alloc | apply Kd.R_drewN | apply Kd.R_drew)); exact HO175.out) (Kd.R_base ho0) hb); have n2_ := Aside0.mk (Kd.R_lower (Kd.R_new' (Kd.R_new' ho0 (Kd.R_lt (by (with_reducible repeat (first | apply Kd.R_alloc | apply Kd.R_drewN | apply Kd.R_drew)); exact HO170.out))) (Kd.R_lt (by (with_reducible repeat (first | apply Kd.R_alloc | apply Kd.R_drewN | apply Kd.R_drew)); exact HO175.out))) (below_size (by repeat (first | (with_reducible first | exact HB.out | apply below_alloc | apply pw_below_drewN | apply below_drew1) | exact HB.out)))); have n3_ := Aside0.mk (below_step (by repeat (first | (with_reducible first | exact HB.out | apply below_alloc | apply pw_below_drewN | apply below_drew1) | exact HB.out)) hb); clear HO170; clear HO175; clear HB; have HO170 := n0_; have HO175 := n1_; have HO180 := n2_; have HB := n3_; clear n0_ n1_ n2_ n3_; (try clear hb); (try clear hb2); (try clear hk); (try clear hi); (try clear ho0)) | ((with_reducible refine gate_callee (f := 8) rfl ?_); refine goesL_ (some 29) rfl rfl Tryd.func8 (by kernel_rfl) rfl #[.string (⟨#[39]⟩ : ByteArray)] rfl (by (try simp only [List.map_toArray, List.map_cons, List.map_nil]); first | done | rfl | (simp only [List.length_drop, List.length_take]; rfl)) ?_; (with_reducible refine (lex_Scan.calls k (⟨#[39]⟩ : ByteArray) t181 t182 t183 _ A4.out (Tabs.below HT.out (by repeat (first | (with_reducible first | exact HB.out | apply below_alloc | apply pw_below_drewN | apply below_drew1) | exact HB.out)))).mono ?_); rintro e w37 ⟨v184, rfl, ho0, hb⟩; refine ⟨_, rfl, ?_⟩; have n0_ := Aside0.mk (Kd.R_elder' (by (with_reducible repeat (first | apply Kd.R_alloc | apply Kd.R_drewN | apply Kd.R_drew)); exact HO170.out) (Kd.R_base ho0) hb); have n1_ := Aside0.mk (Kd.R_elder' (by (with_reducible repeat (first | apply Kd.R_alloc | apply Kd.R_drewN | apply Kd.R_drew)); exact HO175.out) (Kd.R_base ho0) hb); have n2_ := Aside0.mk (Kd.R_elder' (by (with_reducible repeat (first | apply Kd.R_alloc | apply Kd.R_drewN | apply Kd.R_drew)); exact HO180.out) (Kd.R_base ho0) hb); have n3_ := Aside0.mk (Kd.R_lower (Kd.R_new' (Kd.R_new' (Kd.R_new' ho0 (Kd.R_lt (by (with_reducible repeat (first | apply Kd.R_alloc | apply Kd.R_drewN | apply Kd.R_drew)); exact HO170.out))) (Kd.R_lt (by (with_reducible repeat (first | apply Kd.R_alloc | apply Kd.R_drewN | apply Kd.R_drew)); exact HO175.out))) (Kd.R_lt (by (with_reducible repeat (first | apply Kd.R_alloc | apply Kd.R_drewN | apply Kd.R_drew)); exact HO180.out))) (below_size (by repeat (first | (with_reducible first | exact HB.out | apply below_alloc | apply pw_below_drewN | apply below_drew1) | exact HB.out)))); have n4_ := Aside0.mk (below_step (by repeat (first | (with_reducible first | exact HB.out | apply below_alloc | apply pw_below_drewN | apply below_drew1) | exact HB.out)) hb); clear HO170; clear HO175; clear HO180; clear HB; have HO170 := n0_; have HO175 := n1_; have HO180 := n2_; have HO185 := n3_; have HB := n4_; clear n0_ n1_ n2_ n3_ n4_; (try clear hb); (try clear hb2); (try clear hk); (try clear hi); (try clear ho0); obtain ⟨Ao38, co38, eo38⟩ := Kd.R_slice HO170.out; subst eo38; have p186 : 0 ≤ (1 : Int) := (by omega); have q186 : 1 < (t166.length : Int) := of_decide_eq_true (by first | (with_reducible assumption) | assumption); obtain ⟨ad186, e186, hx186_0, hx186_1, hx186_2, hx186_3⟩ := at_T32 (Kd.R_reads' HO170.out).2.2 1 p186 q186; cases e186; (try simp only [show (1 : Int).toNat = 1 from rfl, Nat.reduceMul, Nat.reduceEqDiff, Go.Addr.add, ↓reduceIte] at hx186_0); (try simp only [show (1 : Int).toNat = 1 from rfl, Nat.reduceMul, Nat.reduceEqDiff, Go.Addr.add, ↓reduceIte] at hx186_1); (try simp only [show (1 : Int).toNat = 1 from rfl, Nat.reduceMul, Nat.reduceEqDiff, Go.Addr.add, ↓reduceIte] at hx186_2); (try simp only [show (1 : Int).toNat = 1 from rfl, Nat.reduceMul, Nat.reduceEqDiff, Go.Addr.add, ↓reduceIte] at hx186_3); have qi186 : (1 < t166.length) = True := eq_true (by omega); (try rw [show ((1 : Int)).toNat = 1 from rfl] at hx186_0); (try rw [show 1 * 4 = 4 from rfl] at hx186_0); (try rw [show ((1 : Int)).toNat = 1 from rfl] at hx186_1); (try rw [show 1 * 4 = 4 from rfl] at hx186_1); (try rw [show ((1 : Int)).toNat = 1 from rfl] at hx186_2); (try rw [show 1 * 4 = 4 from rfl] at hx186_2); (try rw [show ((1 : Int)).toNat = 1 from rfl] at hx186_3); (try rw [show 1 * 4 = 4 from rfl] at hx186_3); replace p186 := eq_true p186; replace q186 := eq_true q186; have p187 : 0 ≤ (3 : Int) := (by omega); have q187 : 3 < (t166.length : Int) := of_decide_eq_true (by first | (with_reducible assumption) | assumption); obtain ⟨ad187, e187, hx187_0, hx187_1, hx187_2, hx187_3⟩ := at_T32 (Kd.R_reads' HO170.out).2.2 3 p187 q187; obtain rfl : ad186 = ad187 := (by injection e187); (try simp only [show (3 : Int).toNat = 3 from rfl, Nat.reduceMul, Nat.reduceEqDiff, Go.Addr.add, ↓reduceIte] at hx187_0); (try simp only [show (3 : Int).toNat = 3 from rfl, Nat.reduceMul, Nat.reduceEqDiff, Go.Addr.add, ↓reduceIte] at hx187_1); (try simp only [show (3 : Int).toNat = 3 from rfl, Nat.reduceMul, Nat.reduceEqDiff, Go.Addr.add, ↓reduceIte] at hx187_2); (try simp only [show (3 : Int).toNat = 3 from rfl, Nat.reduceMul, Nat.reduceEqDiff, Go.Addr.add, ↓reduceIte] at hx187_3); have qi187 : (3 < t166.length) = True := eq_true (by omega); (try rw [show ((3 : Int)).toNat = 3 from rfl] at hx187_0); (try rw [show 3 * 4 = 12 from rfl] at hx187_0); (try rw [show ((3 : Int)).toNat = 3 from rfl] at hx187_1); (try rw [show 3 * 4 = 12 from rfl] at hx187_1); (try rw [show ((3 : Int)).toNat = 3 from rfl] at hx187_2); (try rw [show 3 * 4 = 12 from rfl] at hx187_2); (try rw [show ((3 : Int)).toNat = 3 from rfl] at hx187_3); (try rw [show 3 * 4 = 12 from rfl] at hx187_3); replace p187 := eq_true p187; replace q187 := eq_true q187))
              go_ret
              exact ⟨by first | rfl | (simp [errW_none, errW_some] <;> rfl) | (simp [*, errW_none, errW_some] <;> rfl), by repeat (first | (with_reducible first | exact HB.out | apply below_alloc | apply pw_below_drewN | apply below_drew1) | exact HB.out)⟩
          · rw [if_neg c9] at H
            exact absurd H (by simp)
        · rw [if_neg c8] at H
          have c8b0 : (((rd_T32 t166 1).f1).toList == ([45, 62] : List UInt8)) = false := beq_eq_false_iff_ne.mpr c8
          have c8b1 : (((rd_T32 t166 1).f1).toList != ([45, 62] : List UInt8)) = true := bne_iff_ne.mpr c8
          obtain rfl := Option.some.inj H
          go_enter Tryd.func7, Tryd.ntmps7
          go_wp2_with (first | ((with_reducible refine gate_callee (f := 8) rfl ?_); refine goesL_ (some 14) rfl rfl Tryd.func8 (by kernel_rfl) rfl #[.string (⟨#[97, 45, 62, 98, 32, 47, 47, 32, 99]⟩ : ByteArray)] rfl (by (try simp only [List.map_toArray, List.map_cons, List.map_nil]); first | done | rfl | (simp only [List.length_drop, List.length_take]; rfl)) ?_; (with_reducible refine (lex_Scan.calls k (⟨#[97, 45, 62, 98, 32, 47, 47, 32, 99]⟩ : ByteArray) t166 t167 t168 _ A1.out (Tabs.below HT.out (by repeat (first | (with_reducible first | exact HB.out | apply below_alloc | apply pw_below_drewN | apply below_drew1) | exact HB.out)))).mono ?_); rintro e w39 ⟨v169, rfl, ho0, hb⟩; refine ⟨_, rfl, ?_⟩; have n0_ := Aside0.mk (Kd.R_lower ho0 (below_size (by repeat (first | (with_reducible first | exact HB.out | apply below_alloc | apply pw_below_drewN | apply below_drew1) | exact HB.out)))); have n1_ := Aside0.mk (below_step (by repeat (first | (with_reducible first | exact HB.out | apply below_alloc | apply pw_below_drewN | apply below_drew1) | exact HB.out)) hb); clear HB; have HO170 := n0_; have HB := n1_; clear n0_ n1_; (try clear hb); (try clear hb2); (try clear hk); (try clear hi); (try clear ho0)) | ((with_reducible refine gate_callee (f := 8) rfl ?_); refine goesL_ (some 19) rfl rfl Tryd.func8 (by kernel_rfl) rfl #[.string (⟨#[48, 49]⟩ : ByteArray)] rfl (by (try simp only [List.map_toArray, List.map_cons, List.map_nil]); first | done | rfl | (simp only [List.length_drop, List.length_take]; rfl)) ?_; (with_reducible refine (lex_Scan.calls k (⟨#[48, 49]⟩ : ByteArray) t171 t172 t173 _ A2.out (Tabs.below HT.out (by repeat (first | (with_reducible first | exact HB.out | apply below_alloc | apply pw_below_drewN | apply below_drew1) | exact HB.out)))).mono ?_); rintro e w40 ⟨v174, rfl, ho0, hb⟩; refine ⟨_, rfl, ?_⟩; have n0_ := Aside0.mk (Kd.R_elder' (by (with_reducible repeat (first | apply Kd.R_alloc | apply Kd.R_drewN | apply Kd.R_drew)); exact HO170.out) (Kd.R_base ho0) hb); have n1_ := Aside0.mk (Kd.R_lower (Kd.R_new' ho0 (Kd.R_lt (by (with_reducible repeat (first | apply Kd.R_alloc | apply Kd.R_drewN | apply Kd.R_drew)); exact HO170.out))) (below_size (by repeat (first | (with_reducible first | exact HB.out | apply below_alloc | apply pw_below_drewN | apply below_drew1) | exact HB.out)))); have n2_ := Aside0.mk (below_step (by repeat (first | (with_reducible first | exact HB.out | apply below_alloc | apply pw_below_drewN | apply below_drew1) | exact HB.out)) hb); clear HO170; clear HB; have HO170 := n0_; have HO175 := n1_; have HB := n2_; clear n0_ n1_ n2_; (try clear hb); (try clear hb2); (try clear hk); (try clear hi); (try clear ho0)) | ((with_reducible refine gate_callee (f := 8) rfl ?_); refine goesL_ (some 24) rfl rfl Tryd.func8 (by kernel_rfl) rfl #[.string (⟨#[34, 92, 113, 34]⟩ : ByteArray)] rfl (by (try simp only [List.map_toArray, List.map_cons, List.map_nil]); first | done | rfl | (simp only [List.length_drop, List.length_take]; rfl)) ?_; (with_reducible refine (lex_Scan.calls k (⟨#[34, 92, 113, 34]⟩ : ByteArray) t176 t177 t178 _ A3.out (Tabs.below HT.out (by repeat (first | (with_reducible first | exact HB.out | apply below_alloc | apply pw_below_drewN | apply below_drew1) | exact HB.out)))).mono ?_); rintro e w41 ⟨v179, rfl, ho0, hb⟩; refine ⟨_, rfl, ?_⟩; have n0_ := Aside0.mk (Kd.R_elder' (by (with_reducible repeat (first | apply Kd.R_alloc | apply Kd.R_drewN | apply Kd.R_drew)); exact HO170.out) (Kd.R_base ho0) hb); have n1_ := Aside0.mk (Kd.R_elder' (by (with_reducible repeat (first | apply Kd.R_alloc | apply Kd.R_drewN | apply Kd.R_drew)); exact HO175.out) (Kd.R_base ho0) hb); have n2_ := Aside0.mk (Kd.R_lower (Kd.R_new' (Kd.R_new' ho0 (Kd.R_lt (by (with_reducible repeat (first | apply Kd.R_alloc | apply Kd.R_drewN | apply Kd.R_drew)); exact HO170.out))) (Kd.R_lt (by (with_reducible repeat (first | apply Kd.R_alloc | apply Kd.R_drewN | apply Kd.R_drew)); exact HO175.out))) (below_size (by repeat (first | (with_reducible first | exact HB.out | apply below_alloc | apply pw_below_drewN | apply below_drew1) | exact HB.out)))); have n3_ := Aside0.mk (below_step (by repeat (first | (with_reducible first | exact HB.out | apply below_alloc | apply pw_below_drewN | apply below_drew1) | exact HB.out)) hb); clear HO170; clear HO175; clear HB; have HO170 := n0_; have HO175 := n1_; have HO180 := n2_; have HB := n3_; clear n0_ n1_ n2_ n3_; (try clear hb); (try clear hb2); (try clear hk); (try clear hi); (try clear ho0)) | ((with_reducible refine gate_callee (f := 8) rfl ?_); refine goesL_ (some 29) rfl rfl Tryd.func8 (by kernel_rfl) rfl #[.string (⟨#[39]⟩ : ByteArray)] rfl (by (try simp only [List.map_toArray, List.map_cons, List.map_nil]); first | done | rfl | (simp only [List.length_drop, List.length_take]; rfl)) ?_; (with_reducible refine (lex_Scan.calls k (⟨#[39]⟩ : ByteArray) t181 t182 t183 _ A4.out (Tabs.below HT.out (by repeat (first | (with_reducible first | exact HB.out | apply below_alloc | apply pw_below_drewN | apply below_drew1) | exact HB.out)))).mono ?_); rintro e w42 ⟨v184, rfl, ho0, hb⟩; refine ⟨_, rfl, ?_⟩; have n0_ := Aside0.mk (Kd.R_elder' (by (with_reducible repeat (first | apply Kd.R_alloc | apply Kd.R_drewN | apply Kd.R_drew)); exact HO170.out) (Kd.R_base ho0) hb); have n1_ := Aside0.mk (Kd.R_elder' (by (with_reducible repeat (first | apply Kd.R_alloc | apply Kd.R_drewN | apply Kd.R_drew)); exact HO175.out) (Kd.R_base ho0) hb); have n2_ := Aside0.mk (Kd.R_elder' (by (with_reducible repeat (first | apply Kd.R_alloc | apply Kd.R_drewN | apply Kd.R_drew)); exact HO180.out) (Kd.R_base ho0) hb); have n3_ := Aside0.mk (Kd.R_lower (Kd.R_new' (Kd.R_new' (Kd.R_new' ho0 (Kd.R_lt (by (with_reducible repeat (first | apply Kd.R_alloc | apply Kd.R_drewN | apply Kd.R_drew)); exact HO170.out))) (Kd.R_lt (by (with_reducible repeat (first | apply Kd.R_alloc | apply Kd.R_drewN | apply Kd.R_drew)); exact HO175.out))) (Kd.R_lt (by (with_reducible repeat (first | apply Kd.R_alloc | apply Kd.R_drewN | apply Kd.R_drew)); exact HO180.out))) (below_size (by repeat (first | (with_reducible first | exact HB.out | apply below_alloc | apply pw_below_drewN | apply below_drew1) | exact HB.out)))); have n4_ := Aside0.mk (below_step (by repeat (first | (with_reducible first | exact HB.out | apply below_alloc | apply pw_below_drewN | apply below_drew1) | exact HB.out)) hb); clear HO170; clear HO175; clear HO180; clear HB; have HO170 := n0_; have HO175 := n1_; have HO180 := n2_; have HO185 := n3_; have HB := n4_; clear n0_ n1_ n2_ n3_ n4_; (try clear hb); (try clear hb2); (try clear hk); (try clear hi); (try clear ho0); obtain ⟨Ao43, co43, eo43⟩ := Kd.R_slice HO170.out; subst eo43; have p186 : 0 ≤ (1 : Int) := (by omega); have q186 : 1 < (t166.length : Int) := of_decide_eq_true (by first | (with_reducible assumption) | assumption); obtain ⟨ad186, e186, hx186_0, hx186_1, hx186_2, hx186_3⟩ := at_T32 (Kd.R_reads' HO170.out).2.2 1 p186 q186; cases e186; (try simp only [show (1 : Int).toNat = 1 from rfl, Nat.reduceMul, Nat.reduceEqDiff, Go.Addr.add, ↓reduceIte] at hx186_0); (try simp only [show (1 : Int).toNat = 1 from rfl, Nat.reduceMul, Nat.reduceEqDiff, Go.Addr.add, ↓reduceIte] at hx186_1); (try simp only [show (1 : Int).toNat = 1 from rfl, Nat.reduceMul, Nat.reduceEqDiff, Go.Addr.add, ↓reduceIte] at hx186_2); (try simp only [show (1 : Int).toNat = 1 from rfl, Nat.reduceMul, Nat.reduceEqDiff, Go.Addr.add, ↓reduceIte] at hx186_3); have qi186 : (1 < t166.length) = True := eq_true (by omega); (try rw [show ((1 : Int)).toNat = 1 from rfl] at hx186_0); (try rw [show 1 * 4 = 4 from rfl] at hx186_0); (try rw [show ((1 : Int)).toNat = 1 from rfl] at hx186_1); (try rw [show 1 * 4 = 4 from rfl] at hx186_1); (try rw [show ((1 : Int)).toNat = 1 from rfl] at hx186_2); (try rw [show 1 * 4 = 4 from rfl] at hx186_2); (try rw [show ((1 : Int)).toNat = 1 from rfl] at hx186_3); (try rw [show 1 * 4 = 4 from rfl] at hx186_3); replace p186 := eq_true p186; replace q186 := eq_true q186))
          go_ret
          exact ⟨by first | rfl | (simp [errW_none, errW_some] <;> rfl) | (simp [*, errW_none, errW_some] <;> rfl), by repeat (first | (with_reducible first | exact HB.out | apply below_alloc | apply pw_below_drewN | apply below_drew1) | exact HB.out)⟩
      · rw [if_neg c7] at H
        exact absurd H (by simp)
    · rw [if_neg c6] at H
      have c6b0 : ((t166.length : Int) == 4) = false := beq_eq_false_iff_ne.mpr c6
      have c6b1 : ((t166.length : Int) != 4) = true := bne_iff_ne.mpr c6
      obtain rfl := Option.some.inj H
      go_enter Tryd.func7, Tryd.ntmps7
      go_wp2_with (first | ((with_reducible refine gate_callee (f := 8) rfl ?_); refine goesL_ (some 14) rfl rfl Tryd.func8 (by kernel_rfl) rfl #[.string (⟨#[97, 45, 62, 98, 32, 47, 47, 32, 99]⟩ : ByteArray)] rfl (by (try simp only [List.map_toArray, List.map_cons, List.map_nil]); first | done | rfl | (simp only [List.length_drop, List.length_take]; rfl)) ?_; (with_reducible refine (lex_Scan.calls k (⟨#[97, 45, 62, 98, 32, 47, 47, 32, 99]⟩ : ByteArray) t166 t167 t168 _ A1.out (Tabs.below HT.out (by repeat (first | (with_reducible first | exact HB.out | apply below_alloc | apply pw_below_drewN | apply below_drew1) | exact HB.out)))).mono ?_); rintro e w44 ⟨v169, rfl, ho0, hb⟩; refine ⟨_, rfl, ?_⟩; have n0_ := Aside0.mk (Kd.R_lower ho0 (below_size (by repeat (first | (with_reducible first | exact HB.out | apply below_alloc | apply pw_below_drewN | apply below_drew1) | exact HB.out)))); have n1_ := Aside0.mk (below_step (by repeat (first | (with_reducible first | exact HB.out | apply below_alloc | apply pw_below_drewN | apply below_drew1) | exact HB.out)) hb); clear HB; have HO170 := n0_; have HB := n1_; clear n0_ n1_; (try clear hb); (try clear hb2); (try clear hk); (try clear hi); (try clear ho0)) | ((with_reducible refine gate_callee (f := 8) rfl ?_); refine goesL_ (some 19) rfl rfl Tryd.func8 (by kernel_rfl) rfl #[.string (⟨#[48, 49]⟩ : ByteArray)] rfl (by (try simp only [List.map_toArray, List.map_cons, List.map_nil]); first | done | rfl | (simp only [List.length_drop, List.length_take]; rfl)) ?_; (with_reducible refine (lex_Scan.calls k (⟨#[48, 49]⟩ : ByteArray) t171 t172 t173 _ A2.out (Tabs.below HT.out (by repeat (first | (with_reducible first | exact HB.out | apply below_alloc | apply pw_below_drewN | apply below_drew1) | exact HB.out)))).mono ?_); rintro e w45 ⟨v174, rfl, ho0, hb⟩; refine ⟨_, rfl, ?_⟩; have n0_ := Aside0.mk (Kd.R_elder' (by (with_reducible repeat (first | apply Kd.R_alloc | apply Kd.R_drewN | apply Kd.R_drew)); exact HO170.out) (Kd.R_base ho0) hb); have n1_ := Aside0.mk (Kd.R_lower (Kd.R_new' ho0 (Kd.R_lt (by (with_reducible repeat (first | apply Kd.R_alloc | apply Kd.R_drewN | apply Kd.R_drew)); exact HO170.out))) (below_size (by repeat (first | (with_reducible first | exact HB.out | apply below_alloc | apply pw_below_drewN | apply below_drew1) | exact HB.out)))); have n2_ := Aside0.mk (below_step (by repeat (first | (with_reducible first | exact HB.out | apply below_alloc | apply pw_below_drewN | apply below_drew1) | exact HB.out)) hb); clear HO170; clear HB; have HO170 := n0_; have HO175 := n1_; have HB := n2_; clear n0_ n1_ n2_; (try clear hb); (try clear hb2); (try clear hk); (try clear hi); (try clear ho0)) | ((with_reducible refine gate_callee (f := 8) rfl ?_); refine goesL_ (some 24) rfl rfl Tryd.func8 (by kernel_rfl) rfl #[.string (⟨#[34, 92, 113, 34]⟩ : ByteArray)] rfl (by (try simp only [List.map_toArray, List.map_cons, List.map_nil]); first | done | rfl | (simp only [List.length_drop, List.length_take]; rfl)) ?_; (with_reducible refine (lex_Scan.calls k (⟨#[34, 92, 113, 34]⟩ : ByteArray) t176 t177 t178 _ A3.out (Tabs.below HT.out (by repeat (first | (with_reducible first | exact HB.out | apply below_alloc | apply pw_below_drewN | apply below_drew1) | exact HB.out)))).mono ?_); rintro e w46 ⟨v179, rfl, ho0, hb⟩; refine ⟨_, rfl, ?_⟩; have n0_ := Aside0.mk (Kd.R_elder' (by (with_reducible repeat (first | apply Kd.R_alloc | apply Kd.R_drewN | apply Kd.R_drew)); exact HO170.out) (Kd.R_base ho0) hb); have n1_ := Aside0.mk (Kd.R_elder' (by (with_reducible repeat (first | apply Kd.R_alloc | apply Kd.R_drewN | apply Kd.R_drew)); exact HO175.out) (Kd.R_base ho0) hb); have n2_ := Aside0.mk (Kd.R_lower (Kd.R_new' (Kd.R_new' ho0 (Kd.R_lt (by (with_reducible repeat (first | apply Kd.R_alloc | apply Kd.R_drewN | apply Kd.R_drew)); exact HO170.out))) (Kd.R_lt (by (with_reducible repeat (first | apply Kd.R_alloc | apply Kd.R_drewN | apply Kd.R_drew)); exact HO175.out))) (below_size (by repeat (first | (with_reducible first | exact HB.out | apply below_alloc | apply pw_below_drewN | apply below_drew1) | exact HB.out)))); have n3_ := Aside0.mk (below_step (by repeat (first | (with_reducible first | exact HB.out | apply below_alloc | apply pw_below_drewN | apply below_drew1) | exact HB.out)) hb); clear HO170; clear HO175; clear HB; have HO170 := n0_; have HO175 := n1_; have HO180 := n2_; have HB := n3_; clear n0_ n1_ n2_ n3_; (try clear hb); (try clear hb2); (try clear hk); (try clear hi); (try clear ho0)) | ((with_reducible refine gate_callee (f := 8) rfl ?_); refine goesL_ (some 29) rfl rfl Tryd.func8 (by kernel_rfl) rfl #[.string (⟨#[39]⟩ : ByteArray)] rfl (by (try simp only [List.map_toArray, List.map_cons, List.map_nil]); first | done | rfl | (simp only [List.length_drop, List.length_take]; rfl)) ?_; (with_reducible refine (lex_Scan.calls k (⟨#[39]⟩ : ByteArray) t181 t182 t183 _ A4.out (Tabs.below HT.out (by repeat (first | (with_reducible first | exact HB.out | apply below_alloc | apply pw_below_drewN | apply below_drew1) | exact HB.out)))).mono ?_); rintro e w47 ⟨v184, rfl, ho0, hb⟩; refine ⟨_, rfl, ?_⟩; have n0_ := Aside0.mk (Kd.R_elder' (by (with_reducible repeat (first | apply Kd.R_alloc | apply Kd.R_drewN | apply Kd.R_drew)); exact HO170.out) (Kd.R_base ho0) hb); have n1_ := Aside0.mk (Kd.R_elder' (by (with_reducible repeat (first | apply Kd.R_alloc | apply Kd.R_drewN | apply Kd.R_drew)); exact HO175.out) (Kd.R_base ho0) hb); have n2_ := Aside0.mk (Kd.R_elder' (by (with_reducible repeat (first | apply Kd.R_alloc | apply Kd.R_drewN | apply Kd.R_drew)); exact HO180.out) (Kd.R_base ho0) hb); have n3_ := Aside0.mk (Kd.R_lower (Kd.R_new' (Kd.R_new' (Kd.R_new' ho0 (Kd.R_lt (by (with_reducible repeat (first | apply Kd.R_alloc | apply Kd.R_drewN | apply Kd.R_drew)); exact HO170.out))) (Kd.R_lt (by (with_reducible repeat (first | apply Kd.R_alloc | apply Kd.R_drewN | apply Kd.R_drew)); exact HO175.out))) (Kd.R_lt (by (with_reducible repeat (first | apply Kd.R_alloc | apply Kd.R_drewN | apply Kd.R_drew)); exact HO180.out))) (below_size (by repeat (first | (with_reducible first | exact HB.out | apply below_alloc | apply pw_below_drewN | apply below_drew1) | exact HB.out)))); have n4_ := Aside0.mk (below_step (by repeat (first | (with_reducible first | exact HB.out | apply below_alloc | apply pw_below_drewN | apply below_drew1) | exact HB.out)) hb); clear HO170; clear HO175; clear HO180; clear HB; have HO170 := n0_; have HO175 := n1_; have HO180 := n2_; have HO185 := n3_; have HB := n4_; clear n0_ n1_ n2_ n3_ n4_; (try clear hb); (try clear hb2); (try clear hk); (try clear hi); (try clear ho0); obtain ⟨Ao48, co48, eo48⟩ := Kd.R_slice HO170.out; subst eo48))
      go_ret
      exact ⟨by first | rfl | (simp [errW_none, errW_some] <;> rfl) | (simp [*, errW_none, errW_some] <;> rfl), by repeat (first | (with_reducible first | exact HB.out | apply below_alloc | apply pw_below_drewN | apply below_drew1) | exact HB.out)⟩
  · rw [if_neg c5] at H
    have c5b0 : (t168 == 0) = false := beq_eq_false_iff_ne.mpr c5
    have c5b1 : (t168 != 0) = true := bne_iff_ne.mpr c5
    obtain rfl := Option.some.inj H
    go_enter Tryd.func7, Tryd.ntmps7
    go_wp2_with (first | ((with_reducible refine gate_callee (f := 8) rfl ?_); refine goesL_ (some 14) rfl rfl Tryd.func8 (by kernel_rfl) rfl #[.string (⟨#[97, 45, 62, 98, 32, 47, 47, 32, 99]⟩ : ByteArray)] rfl (by (try simp only [List.map_toArray, List.map_cons, List.map_nil]); first | done | rfl | (simp only [List.length_drop, List.length_take]; rfl)) ?_; (with_reducible refine (lex_Scan.calls k (⟨#[97, 45, 62, 98, 32, 47, 47, 32, 99]⟩ : ByteArray) t166 t167 t168 _ A1.out (Tabs.below HT.out (by repeat (first | (with_reducible first | exact HB.out | apply below_alloc | apply pw_below_drewN | apply below_drew1) | exact HB.out)))).mono ?_); rintro e w49 ⟨v169, rfl, ho0, hb⟩; refine ⟨_, rfl, ?_⟩; have n0_ := Aside0.mk (Kd.R_lower ho0 (below_size (by repeat (first | (with_reducible first | exact HB.out | apply below_alloc | apply pw_below_drewN | apply below_drew1) | exact HB.out)))); have n1_ := Aside0.mk (below_step (by repeat (first | (with_reducible first | exact HB.out | apply below_alloc | apply pw_below_drewN | apply below_drew1) | exact HB.out)) hb); clear HB; have HO170 := n0_; have HB := n1_; clear n0_ n1_; (try clear hb); (try clear hb2); (try clear hk); (try clear hi); (try clear ho0)) | ((with_reducible refine gate_callee (f := 8) rfl ?_); refine goesL_ (some 19) rfl rfl Tryd.func8 (by kernel_rfl) rfl #[.string (⟨#[48, 49]⟩ : ByteArray)] rfl (by (try simp only [List.map_toArray, List.map_cons, List.map_nil]); first | done | rfl | (simp only [List.length_drop, List.length_take]; rfl)) ?_; (with_reducible refine (lex_Scan.calls k (⟨#[48, 49]⟩ : ByteArray) t171 t172 t173 _ A2.out (Tabs.below HT.out (by repeat (first | (with_reducible first | exact HB.out | apply below_alloc | apply pw_below_drewN | apply below_drew1) | exact HB.out)))).mono ?_); rintro e w50 ⟨v174, rfl, ho0, hb⟩; refine ⟨_, rfl, ?_⟩; have n0_ := Aside0.mk (Kd.R_elder' (by (with_reducible repeat (first | apply Kd.R_alloc | apply Kd.R_drewN | apply Kd.R_drew)); exact HO170.out) (Kd.R_base ho0) hb); have n1_ := Aside0.mk (Kd.R_lower (Kd.R_new' ho0 (Kd.R_lt (by (with_reducible repeat (first | apply Kd.R_alloc | apply Kd.R_drewN | apply Kd.R_drew)); exact HO170.out))) (below_size (by repeat (first | (with_reducible first | exact HB.out | apply below_alloc | apply pw_below_drewN | apply below_drew1) | exact HB.out)))); have n2_ := Aside0.mk (below_step (by repeat (first | (with_reducible first | exact HB.out | apply below_alloc | apply pw_below_drewN | apply below_drew1) | exact HB.out)) hb); clear HO170; clear HB; have HO170 := n0_; have HO175 := n1_; have HB := n2_; clear n0_ n1_ n2_; (try clear hb); (try clear hb2); (try clear hk); (try clear hi); (try clear ho0)) | ((with_reducible refine gate_callee (f := 8) rfl ?_); refine goesL_ (some 24) rfl rfl Tryd.func8 (by kernel_rfl) rfl #[.string (⟨#[34, 92, 113, 34]⟩ : ByteArray)] rfl (by (try simp only [List.map_toArray, List.map_cons, List.map_nil]); first | done | rfl | (simp only [List.length_drop, List.length_take]; rfl)) ?_; (with_reducible refine (lex_Scan.calls k (⟨#[34, 92, 113, 34]⟩ : ByteArray) t176 t177 t178 _ A3.out (Tabs.below HT.out (by repeat (first | (with_reducible first | exact HB.out | apply below_alloc | apply pw_below_drewN | apply below_drew1) | exact HB.out)))).mono ?_); rintro e w51 ⟨v179, rfl, ho0, hb⟩; refine ⟨_, rfl, ?_⟩; have n0_ := Aside0.mk (Kd.R_elder' (by (with_reducible repeat (first | apply Kd.R_alloc | apply Kd.R_drewN | apply Kd.R_drew)); exact HO170.out) (Kd.R_base ho0) hb); have n1_ := Aside0.mk (Kd.R_elder' (by (with_reducible repeat (first | apply Kd.R_alloc | apply Kd.R_drewN | apply Kd.R_drew)); exact HO175.out) (Kd.R_base ho0) hb); have n2_ := Aside0.mk (Kd.R_lower (Kd.R_new' (Kd.R_new' ho0 (Kd.R_lt (by (with_reducible repeat (first | apply Kd.R_alloc | apply Kd.R_drewN | apply Kd.R_drew)); exact HO170.out))) (Kd.R_lt (by (with_reducible repeat (first | apply Kd.R_alloc | apply Kd.R_drewN | apply Kd.R_drew)); exact HO175.out))) (below_size (by repeat (first | (with_reducible first | exact HB.out | apply below_alloc | apply pw_below_drewN | apply below_drew1) | exact HB.out)))); have n3_ := Aside0.mk (below_step (by repeat (first | (with_reducible first | exact HB.out | apply below_alloc | apply pw_below_drewN | apply below_drew1) | exact HB.out)) hb); clear HO170; clear HO175; clear HB; have HO170 := n0_; have HO175 := n1_; have HO180 := n2_; have HB := n3_; clear n0_ n1_ n2_ n3_; (try clear hb); (try clear hb2); (try clear hk); (try clear hi); (try clear ho0)) | ((with_reducible refine gate_callee (f := 8) rfl ?_); refine goesL_ (some 29) rfl rfl Tryd.func8 (by kernel_rfl) rfl #[.string (⟨#[39]⟩ : ByteArray)] rfl (by (try simp only [List.map_toArray, List.map_cons, List.map_nil]); first | done | rfl | (simp only [List.length_drop, List.length_take]; rfl)) ?_; (with_reducible refine (lex_Scan.calls k (⟨#[39]⟩ : ByteArray) t181 t182 t183 _ A4.out (Tabs.below HT.out (by repeat (first | (with_reducible first | exact HB.out | apply below_alloc | apply pw_below_drewN | apply below_drew1) | exact HB.out)))).mono ?_); rintro e w52 ⟨v184, rfl, ho0, hb⟩; refine ⟨_, rfl, ?_⟩; have n0_ := Aside0.mk (Kd.R_elder' (by (with_reducible repeat (first | apply Kd.R_alloc | apply Kd.R_drewN | apply Kd.R_drew)); exact HO170.out) (Kd.R_base ho0) hb); have n1_ := Aside0.mk (Kd.R_elder' (by (with_reducible repeat (first | apply Kd.R_alloc | apply Kd.R_drewN | apply Kd.R_drew)); exact HO175.out) (Kd.R_base ho0) hb); have n2_ := Aside0.mk (Kd.R_elder' (by (with_reducible repeat (first | apply Kd.R_alloc | apply Kd.R_drewN | apply Kd.R_drew)); exact HO180.out) (Kd.R_base ho0) hb); have n3_ := Aside0.mk (Kd.R_lower (Kd.R_new' (Kd.R_new' (Kd.R_new' ho0 (Kd.R_lt (by (with_reducible repeat (first | apply Kd.R_alloc | apply Kd.R_drewN | apply Kd.R_drew)); exact HO170.out))) (Kd.R_lt (by (with_reducible repeat (first | apply Kd.R_alloc | apply Kd.R_drewN | apply Kd.R_drew)); exact HO175.out))) (Kd.R_lt (by (with_reducible repeat (first | apply Kd.R_alloc | apply Kd.R_drewN | apply Kd.R_drew)); exact HO180.out))) (below_size (by repeat (first | (with_reducible first | exact HB.out | apply below_alloc | apply pw_below_drewN | apply below_drew1) | exact HB.out)))); have n4_ := Aside0.mk (below_step (by repeat (first | (with_reducible first | exact HB.out | apply below_alloc | apply pw_below_drewN | apply below_drew1) | exact HB.out)) hb); clear HO170; clear HO175; clear HO180; clear HB; have HO170 := n0_; have HO175 := n1_; have HO180 := n2_; have HO185 := n3_; have HB := n4_; clear n0_ n1_ n2_ n3_ n4_; (try clear hb); (try clear hb2); (try clear hk); (try clear hi); (try clear ho0)))
    go_ret
    exact ⟨by first | rfl | (simp [errW_none, errW_some] <;> rfl) | (simp [*, errW_none, errW_some] <;> rfl), by repeat (first | (with_reducible first | exact HB.out | apply below_alloc | apply pw_below_drewN | apply below_drew1) | exact HB.out)⟩
end Go.Proofs.YtdjcechogbcdnaaDoor.XL
