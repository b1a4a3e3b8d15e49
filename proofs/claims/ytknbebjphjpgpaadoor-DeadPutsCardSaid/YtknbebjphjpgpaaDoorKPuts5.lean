/- switchyard/switchyardlaw19.DeadPuts: for every input the law answers true, and its arguments read as before; the listed library tables are tied to the program's text by the given tie. Conditions: none but the card's own. -/
import Derived.Test.YtknbebjphjpgpaaDoorKPuts4
import Derived.Test.YtknbebjphjpgpaaDoorRows
import Derived.Test.YtknbebjphjpgpaaDoorCards
import Derived.Test.YtknbebjphjpgpaaDoorTie
import Derived.WalkKit
import Derived.ProofKit
import Derived.OpenShut
import Derived.ShutString
import Derived.ChangeOld
import Derived.Below
import Derived.SizedLaws
import Derived.LaidMore
import Derived.Stop.Joined
import Derived.SevenTiedAt
namespace Go.Proofs.YtknbebjphjpgpaaDoor.XD
open Go.RowKit Go.Proofs.YtknbebjphjpgpaaDoorW.PrintWords Go.Proofs.YtknbebjphjpgpaaDoorW.PrintLast Go.Proofs.YtknbebjphjpgpaaDoorW.PrintMore
set_option linter.unusedVariables false
set_option linter.unusedSimpArgs false
theorem puts_loop (l : List S27) (x : S27) (most : Int) (h : OkA l) (hl : l.length ≤ 100) (hx : OkL x) : ∀ d i : Nat, i + d = l.length → Ev (fun k => switchyardlaw19_DeadPuts.l0 k l (putP l x most).1 (putP l x most).2 (putP l x most).1 (putP l x most).2 (dropP l x.f0).1 (dropP l x.f0).2 (dropP l x.f0).1 (dropP l x.f0).2 (findP l x.f0).2.2.2.2.2.2 (findP l x.f0).2.2.2.2.2.2 ((cntP (l.take i) x.f2 : Nat) : Int) l (l.length : Int) (i : Int) x.f0 x.f1.f0 x.f1.f1 x.f1.f2 x.f1.f3 x.f2 (findP l x.f0).1 (findP l x.f0).2.1 (findP l x.f0).2.2.1 (findP l x.f0).2.2.2.1 (findP l x.f0).2.2.2.2.1 (findP l x.f0).2.2.2.2.2.1 (findP l x.f0).1 (findP l x.f0).2.1 (findP l x.f0).2.2.1 (findP l x.f0).2.2.2.1 (findP l x.f0).2.2.2.2.1 (findP l x.f0).2.2.2.2.2.1) true := by
  intro d
  induction d with
  | zero =>
    intro i hi
    refine Ev.step (fun k => by simp only [switchyardlaw19_DeadPuts.l0]; rfl) (Ev.neg (by omega) ?_)
    rw [List.take_of_length_le (by omega)]
    refine Ev.bind awake_ev (Ev.pos rfl (Ev.bind (same19_ev _ _ (okA_put h hl hx)) (Ev.pos (by simp) (Ev.pos (by trivial) (Ev.bind (same19_ev _ _ (okA_drop h)) (Ev.pos (by simp) (Ev.pos (by trivial) (Ev.pos (by simp) ?_))))))))
    refine Ev.bind (sdead_ev ⟨(findP l x.f0).1, ⟨(findP l x.f0).2.1, (findP l x.f0).2.2.1, (findP l x.f0).2.2.2.1, (findP l x.f0).2.2.2.2.1⟩, (findP l x.f0).2.2.2.2.2.1⟩ ⟨(findP l x.f0).1, ⟨(findP l x.f0).2.1, (findP l x.f0).2.2.1, (findP l x.f0).2.2.2.1, (findP l x.f0).2.2.2.2.1⟩, (findP l x.f0).2.2.2.2.2.1⟩ (okL_find h)) (Ev.pos (by simp) ?_)
    rw [word_code]
    unfold dead_Word.f
    refine Ev.bind (Ev.now _) (Ev.bind (Ev.now _) (Ev.pos rfl (Ev.bind (count_ev l _ (by omega)) (Ev.val ?_))))
    simp
  | succ d ih =>
    intro i hi
    have hlt : i < l.length := by omega
    have next := ih (i + 1) (by omega)
    refine Ev.step (fun k => by simp only [switchyardlaw19_DeadPuts.l0]; rfl) (Ev.pos (by omega) (Ev.pos (by omega) (Ev.pos (by omega) ?_)))
    rw [rd27_at hlt, wr_succ hlt (by omega)]
    have hc : cntP (l.take i) x.f2 ≤ 2000 := by
      have h1 := List.length_filter_le (fun y : S27 => y.f2 == x.f2) (l.take i)
      have h2 := take_len i l
      unfold cntP; omega
    have e : cntP (l.take (i + 1)) x.f2 = cntP (l.take i) x.f2 + if l[i].f2 = x.f2 then 1 else 0 := by
      unfold cntP
      rw [List.take_succ_eq_append_getElem hlt, List.filter_append, List.length_append]
      by_cases hp : l[i].f2 = x.f2 <;> simp [hp]
    rw [e] at next
    by_cases hp : l[i].f2 = x.f2
    · rw [if_pos hp] at next
      refine Ev.pos hp ?_
      rw [wr_cnt (by omega)]; exact next
    · rw [if_neg hp] at next
      exact Ev.neg hp next
theorem puts_j (l : List S27) (x : S27) (most : Int) (b : Bool) (hb : b = false → (OkA l ∧ l.length ≤ 100) ∧ OkL x) : Ev (fun k => switchyardlaw19_DeadPuts.j0 k l most b x.f0 x.f1.f0 x.f1.f1 x.f1.f2 x.f1.f3 x.f2) true := by
  refine Ev.step (fun k => by simp only [switchyardlaw19_DeadPuts.j0]; rfl) ?_
  by_cases h : b = true
  · exact Ev.pos h (Ev.bind awake_ev (Ev.now _))
  · obtain ⟨⟨h1, h2⟩, h3⟩ := hb (by simpa using h)
    refine Ev.neg h (Ev.bind (put_ev l x most h1 h3) (Ev.bind (rput_ev l x most h1.1) (Ev.bind (drop_ev l _ h1) (Ev.bind (rdrop_ev l _ h1.1) (Ev.bind (find_ev l _ h1) (Ev.bind (rfind_ev l _ h1.1) ?_))))))
    have := puts_loop l x most h1 h2 h3 l.length 0 (by omega)
    simpa [cntP] using this
theorem puts_ev (l : List S27) (x : S27) (most : Int) (hl : l.length ≤ 4611686018427387904) (h1 : smallB l = true → OkA l ∧ l.length ≤ 100) (h2 : smallB [x] = true → OkL x) : Ev (fun k => switchyardlaw19_DeadPuts.f k l x.f0 x.f1.f0 x.f1.f1 x.f1.f2 x.f1.f3 x.f2 most) true := by
  unfold switchyardlaw19_DeadPuts.f
  refine Ev.bind awake_ev (Ev.pos rfl (Ev.bind (small_ev l hl) ?_))
  by_cases hs : smallB l = true
  · refine Ev.pos hs (Ev.bind (small_ev [x] (by simp)) (puts_j l x most _ (fun hb => ⟨h1 hs, h2 (by simpa using hb)⟩)))
  · exact Ev.neg hs (puts_j l x most true (fun hb => by cases hb))
set_option maxHeartbeats 1000000 in
theorem puts_walk (A0 : Option Addr) (c0 : Nat) (l0 : (List S27)) (a1_0 : Int) (a1_1 : Int) (a1_2 : ByteArray) (A1_3 : Option Addr) (c1_3 : Nat) (l1_3 : (List S37)) (A1_4 : Option Addr) (c1_4 : Nat) (l1_4 : (List S37)) (a1_5 : Int) (a2 : Int) (W : World) (hC0 : Kd.C k27 W A0 l0.length l0) (hc0 : l0.length ≤ c0) (hG0 : (l0.length * Tryd.prog.bytesOf 27 ≤ 140737488351232 ∧ l0.length ≤ maxLen ∧ ∀ y ∈ l0, G27 y)) (hG1_0 : (Lit.int .i64 a1_0).wf = true) (hG1_1 : (Lit.int .i64 a1_1).wf = true) (hG1_2 : a1_2.size ≤ 140737488351232) (hC1_3 : Kd.C k37 W A1_3 l1_3.length l1_3) (hc1_3 : l1_3.length ≤ c1_3) (hG1_3 : (l1_3.length * Tryd.prog.bytesOf 37 ≤ 140737488351232 ∧ l1_3.length ≤ maxLen ∧ ∀ y ∈ l1_3, G37 y)) (hC1_4 : Kd.C k37 W A1_4 l1_4.length l1_4) (hc1_4 : l1_4.length ≤ c1_4) (hG1_4 : (l1_4.length * Tryd.prog.bytesOf 37 ≤ 140737488351232 ∧ l1_4.length ≤ maxLen ∧ ∀ y ∈ l1_4, G37 y)) (hG1_5 : (Lit.int .i64 a1_5).wf = true) (hG2 : (Lit.int .i64 a2).wf = true) (hT : Tabs W) :
    Calls Tryd.prog 5 #[.slice A0 l0.length c0, .agg #[.int .i64 a1_0, .int .i64 a1_1, .string a1_2, .slice A1_3 l1_3.length c1_3, .slice A1_4 l1_4.length c1_4, .int .i64 a1_5], .int .i64 a2] W fun e w' => e = .returned (.bool true) ∧ Below W.heap.size W w' := by
  obtain ⟨k, hk⟩ := Ev.rounds (puts_ev l0 ⟨a1_0, ⟨a1_1, a1_2, l1_3, l1_4⟩, a1_5⟩ a2 (len27 hG0.1) (okA_of hG0.2.2) (okX_of hG1_3.2.2 hG1_4.2.2))
  exact switchyardlaw19_DeadPuts.calls k _ A0 c0 l0 a1_0 a1_1 a1_2 _ A1_3 c1_3 l1_3 _ A1_4 c1_4 l1_4 a1_5 a2 true W (came 27 heap27 hC0 hc0) (came 37 heap37 hC1_3 hc1_3) (came 37 heap37 hC1_4 hc1_4) hk hT
end Go.Proofs.YtknbebjphjpgpaaDoor.XD
namespace Go.Proofs.YtknbebjphjpgpaaDoor.XD
open Go.RowKit Go.Proofs.YtknbebjphjpgpaaDoorW.PrintWords Go.Proofs.YtknbebjphjpgpaaDoor.Open
theorem strs_of_reads {P : Program} {W : World} {l : List (String × DataW Unit)} {name : String} (zs : List (List UInt8)) {g : Nat} {t e : TypeId} {n : Nat} (hp : (l.all fun x => x.2.handleName?.isNone) = true) (h : laidMetH P l W) (hm : (name, .agg (zs.map fun z => .lit (.string z))) ∈ l)
    (hg : P.globalNamed name = some g) (hty : (P.globals[g]?).map (·.type) = some t) (ht : P.underlying t = some (.array n e)) (he : P.underlying e = some .string) (hce : P.cellsOf e = 1) (hct : P.cellsOf t = n) : W.var? P name = some (zs.map fun z => Value.string ⟨z.toArray⟩).toArray := by
  rw [MakeChecks.laidMetH_plain _ _ _ hp] at h
  obtain ⟨g', t', cs, fuel, p, hg', ht', hvar, hd⟩ := Lib.laidMet.reads h hm
  obtain rfl := Option.some.inj (hg.symm.trans hg')
  obtain rfl := Option.some.inj (hty.symm.trans ht')
  rw [hvar, ← cells_of_strs ht he hce hct hd]
end Go.Proofs.YtknbebjphjpgpaaDoor.XD
namespace Go.Proofs.YtknbebjphjpgpaaDoor.deadPuts
open Go.ChangeShapes Go.WideShapes Go.ChangeAt Go.RowKit
open Go.ChangeMaps (open_string shut_string)
open Go.Proofs.YtknbebjphjpgpaaDoorW.PrintWords Go.Proofs.YtknbebjphjpgpaaDoor.Open Go.Proofs.YtknbebjphjpgpaaDoor.XD
set_option linter.unusedVariables false
theorem door_met (os : Os) (args : Array Value) : laidMetH Tryd.prog Rows.deadPutsRow.laid ((World.doorLaid Tryd.prog 24 os).forCall (fun _ _ => 0) ⟨#[], args, []⟩).memory :=
  laidMetH_of_parts3 (fuel := 8) (laidMet_of_run' 8 (by kernel_rfl) (by kernel_rfl)) (by kernel_rfl) (by kernel_rfl)
theorem tabs_of {W : World} (h : laidMetH Tryd.prog Rows.deadPutsRow.laid W) : Tabs W :=
  strs_of_reads wordL (by kernel_rfl) h (by exact .head _) (g := 0) (by kernel_rfl) (by kernel_rfl) (n := 6) Tryd.underlying52 Tryd.underlying9 (by kernel_rfl) (by kernel_rfl)
theorem own : ownKnob Tryd.prog.godebug = none := by kernel_rfl
theorem laidOut : laidOutB Tryd.prog = true := by kernel_rfl
set_option maxRecDepth 100000 in
theorem lifted (os : Os) (started : os.Started) (H : Type) (enc : TypeId × Value → H) :
    ReturnsInHanded {} Tryd.checked os 5 .any (fun w args => (Rows.deadPutsSpec.pre enc Tryd.prog Tryd.f5 [] false w args ∧ laidMetH Tryd.prog Rows.deadPutsRow.laid w) ∧ sizedMet enc Tryd.prog Tryd.f5 (OpenSpec.ofChange Rows.deadPutsSpec) false w args) (Rows.deadPutsSpec.post enc Tryd.prog Tryd.f5 false true false false) := by
  refine returnsInHanded_of_change_and (C := Tryd.checked) (X := fun w _ => laidMetH Tryd.prog Rows.deadPutsRow.laid w) (fun _ _ _ hh h => h.of_heap hh) own started (by kernel_rfl) Tryd.func5
    (ChangeSpec.witness_shaped (enc := enc) (C := Tryd.checked) (os := os) (X := fun w _ => laidMetH Tryd.prog Rows.deadPutsRow.laid w) false (World.doorLaid Tryd.prog 24 os) #[.slice none 0 0, .agg #[.int .i64 0, .int .i64 0, .string ByteArray.empty, .slice none 0 0, .slice none 0 0, .int .i64 0], .int .i64 0] 8 rfl (World.shaped_of_RefB (by kernel_rfl) (by kernel_rfl)) (by kernel_rfl) (by kernel_rfl) (by kernel_rfl) (door_met os _)) ?_
  intro W base args ds gs before hval0 hW hcnd hsz0 hL _
  have hsz : (DataW.weightsEach Tryd.prog (Tryd.f5.params.toList ++ Rows.deadPutsSpec.plain.varTypes Tryd.prog) (ds ++ gs)).all (· ≤ reachBytes) = true := hsz0
  have hval : ∀ (j : Nat) t v, Tryd.f5.params[j]? = some t → args[j]? = some v → Value.okWide Tryd.prog W .any base t v := hval0
  have hW' := hW
  obtain ⟨p, q, hA0, hV, rfl, hfz, hnd⟩ := hW
  have hA : DataW.TrodAll enc Tryd.prog W 0 (fun _ => true) true Tryd.f5.params.toList args.toList ds p := hA0
  rw [Tryd.params5] at hA hval hsz
  obtain ⟨v0, vs0, d0, ds0, p0, q0, hargs, rfl, rfl, h0, r0⟩ := trodAll_cons hA
  obtain ⟨v1, vs1, d1, ds1, p1, q1, rfl, rfl, rfl, h1, r1⟩ := trodAll_cons r0
  obtain ⟨v2, vs2, d2, ds2, p2, q2, rfl, rfl, rfl, h2, r2⟩ := trodAll_cons r1
  obtain ⟨rfl, rfl, rfl⟩ := trodAll_nil r2
  obtain rfl : args = #[v0, v1, v2] := by cases args; simp_all
  obtain ⟨rfl, rfl⟩ := trodVars_none hV
  have k0 := h0
  have lt0 : ∀ x ∈ p0, x.block < W.heap.size := by obtain ⟨m, hm⟩ := k0; exact DataW.trod_lt m _ _ _ hm
  have wt0 := Open.arg_weights hsz (j := 0) (t := 22) (d := d0) rfl rfl
  obtain ⟨l0, hK0, hG0⟩ := Opens.arg (k := (Kd.slice 27 k27)) (fun _ => (opens_slice' Tryd.underlying22 (by kernel_rfl) (fun _ _ => (opens_k27 _)))) h0 wt0
  obtain ⟨b0, len0, cap0, rfl⟩ := okWide_slice Tryd.underlying22 (hval 0 22 v0 rfl rfl)
  obtain ⟨A0, c0, he0, hc0, hC0⟩ := hK0
  simp only [Value.cells] at he0
  injection he0 with he0 _
  injection he0 with e10 e20 e30
  subst e10 e20 e30
  have k1 := h1
  have lt1 : ∀ x ∈ p1, x.block < W.heap.size := by obtain ⟨m, hm⟩ := k1; exact DataW.trod_lt m _ _ _ hm
  have wt1 := Open.arg_weights hsz (j := 1) (t := 27) (d := d1) rfl rfl
  obtain ⟨x1, hK1, hG1⟩ := Opens.arg (k := (Kd.pair (Kd.int .i64) (Kd.pair (Kd.pair (Kd.int .i64) (Kd.pair Kd.string (Kd.pair (Kd.slice 37 k37) (Kd.slice 37 k37)))) (Kd.int .i64)))) (fun _ => (opens_struct' id id (fun _ => rfl) Tryd.underlying27 (by kernel_rfl) (fun _ _ => (OpensF.cons rfl (by kernel_rfl) (opens_int Tryd.underlying2) (OpensF.cons rfl (by kernel_rfl) (opens_struct' id id (fun _ => rfl) Tryd.underlying25 (by kernel_rfl) (fun _ _ => (OpensF.cons rfl (by kernel_rfl) (opens_int Tryd.underlying2) (OpensF.cons rfl (by kernel_rfl) (opens_string Tryd.underlying9) (OpensF.cons rfl (by kernel_rfl) (opens_slice' Tryd.underlying23 (by kernel_rfl) (fun _ _ => (opens_k37 _))) (OpensF.last rfl (by kernel_rfl) (opens_slice' Tryd.underlying23 (by kernel_rfl) (fun _ _ => (opens_k37 _))))))))) (OpensF.last rfl (by kernel_rfl) (opens_int Tryd.underlying3))))))) h1 wt1
  obtain ⟨cs1, rfl, hs1⟩ := okWide_struct Tryd.underlying27 (hval 1 27 v1 rfl rfl)
  obtain ⟨a1_0, ⟨a1_1, a1_2, l1_3, l1_4⟩, a1_5⟩ := x1
  simp only [Value.cells] at hK1
  generalize hcs1 : cs1.toList = ct1 at hK1
  obtain ⟨_, _, rfl, rfl, ⟨_, _, rfl, ⟨_, _, rfl, rfl, ⟨_, _, rfl, rfl, ⟨_, _, rfl, ⟨A1_3, c1_3, rfl, hc1_3, hC1_3⟩, ⟨A1_4, c1_4, rfl, hc1_4, hC1_4⟩⟩⟩⟩, rfl⟩⟩ := hK1
  obtain rfl : cs1 = #[.int .i64 a1_0, .int .i64 a1_1, .string a1_2, .slice A1_3 l1_3.length c1_3, .slice A1_4 l1_4.length c1_4, .int .i64 a1_5] := by cases cs1; simpa using hcs1
  have k2 := h2
  have lt2 : ∀ x ∈ p2, x.block < W.heap.size := by obtain ⟨m, hm⟩ := k2; exact DataW.trod_lt m _ _ _ hm
  have wt2 := Open.arg_weights hsz (j := 2) (t := 3) (d := d2) rfl rfl
  obtain ⟨a2, rfl, rfl, rfl, w2⟩ := open_int Tryd.underlying3 (hval 2 3 v2 rfl rfl) h2
  clear hA0 hval0 hsz0 hsz
  have hT := tabs_of hL
  refine (puts_walk b0 cap0 l0 a1_0 a1_1 a1_2 A1_3 c1_3 l1_3 A1_4 c1_4 l1_4 a1_5 a2 W hC0 hc0 hG0 hG1.1 hG1.2.1.1 hG1.2.1.2.1 hC1_3 hc1_3 hG1.2.1.2.2.1 hC1_4 hc1_4 hG1.2.1.2.2.2 hG1.2.2 w2 hT).mono fun e W' ⟨he, bel⟩ => ?_
  subst he
  exact ⟨_, rfl, _, _, _, [], _, [], hW', trodAll_mk1 (shut_bool Tryd.underlying4 _), (trodAll_cons_mk (Below.trod laidOut (by kernel_rfl) (of_decide_eq_true (by kernel_rfl)) k0 bel lt0) (trodAll_cons_mk (Below.trod laidOut (by kernel_rfl) (of_decide_eq_true (by kernel_rfl)) k1 bel lt1) (trodAll_cons_mk (Below.trod laidOut (by kernel_rfl) (of_decide_eq_true (by kernel_rfl)) k2 bel lt2) trodAll_mk0))), rfl, bel.frame _, fun h => by cases h⟩
theorem over : Rows.deadPutsRow.holds Tryd.pinned (OpenSpec.ofChange Rows.deadPutsSpec) :=
  OpenClaim.holds_of_wide 5 Tryd.f5 rfl rfl rfl rfl rfl rfl rfl ⟨rfl, rfl, rfl, rfl, rfl⟩ rfl rfl rfl rfl rfl (by kernel_rfl) Tryd.func5 (by kernel_rfl)
    (of_decide_eq_true (by kernel_rfl)) (by unfold Func.isWrapper; first | (rw [if_pos (by decide +kernel)]; kernel_rfl) | (rw [if_neg (by decide +kernel)]; exact ⟨rfl, rfl⟩))
    (fun os started H enc _ => lifted os started H enc)
theorem proved : Rows.DeadPutsSaid := over
theorem card_proved : Rows.DeadPutsCardSaid :=
  Claim7.holds_tied_plain_at .later [] [.data] true (true, "082a175ab3fb4a6814a4ab67dadfecd13186a509aa05699093f69527edcefca9") false proved (fun _ h => by cases h) (by kernel_rfl) (fun _ h => by cases h) deadPuts_row_tie rfl ⟨rfl, rfl⟩ (by kernel_rfl) rfl
    (fun f fn hf hfn => by
      obtain rfl : f = 5 := Option.some.inj ((show Tryd.prog.funcNamed "switchyard/switchyardlaw19.DeadPuts" = some 5 by kernel_rfl).symm.trans hf) |>.symm
      obtain rfl : fn = Tryd.f5 := (Option.some.inj (Tryd.func5.symm.trans hfn)).symm
      exact ⟨by kernel_rfl, fun j t ht => by
        rw [Tryd.params5] at ht
        have hm : t ∈ [22, 27, 3] := by simpa using Array.mem_of_getElem? ht
        have hall : ([22, 27, 3].all fun u => !Tryd.prog.wantsStandIn u) = true := by kernel_rfl
        exact (show Tryd.prog.wantsStandIn t = false by simpa using List.all_eq_true.1 hall t hm)⟩)
    (by kernel_rfl)
end Go.Proofs.YtknbebjphjpgpaaDoor.deadPuts
namespace Go.Proofs.YtknbebjphjpgpaaDoor
/-- The card, under a short name, for the claim. -/
theorem deadPuts_holds : Rows.DeadPutsCardSaid := deadPuts.card_proved
end Go.Proofs.YtknbebjphjpgpaaDoor
