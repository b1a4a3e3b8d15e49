/- switchyard/switchyardlaw18.MailPlays: for every input the law answers true, and its arguments read as before. Conditions: none but the row's own. -/
import Derived.Test.YthbcekjiljkchaaKPlays1
import Derived.ArgAppend
import Derived.Test.YthbcekjiljkchaaRows
import Derived.WalkKit
import Derived.ProofKit
import Derived.OpenShut
import Derived.ShutString
import Derived.ChangeOld
import Derived.Below
import Derived.SizedLaws
namespace Go.Proofs.Ythbcekjiljkchaa.XM
open Go.RowKit Go.Conc Go.Proofs.YthbcekjiljkchaaW.PrintWords Go.Proofs.YthbcekjiljkchaaW.PrintLast Go.Proofs.YthbcekjiljkchaaW.PrintMore Go.Proofs.Ythbcekjiljkchaa.Comm
set_option linter.unusedVariables false
set_option linter.unusedSimpArgs false
/-- A row of messages in a block of the call's own (from B on), which may begin inside it; what the messages lead to came in by W0. -/
def SL (W0 : World) (B : Nat) (w : World) (v : Value) (L : List S30) : Prop := ∃ A c, v = .slice A L.length c ∧ L.length ≤ c ∧ c ≤ 9223372036854775807 ∧ (A = none → c = 0) ∧ ∀ ad, A = some ad → ∃ b off cur, ad = ⟨b, off, none⟩ ∧ B ≤ b ∧ w.heap[b]? = some (.cells cur 30 (0, 0)) ∧ off + c * 4 ≤ cur.size ∧ ∀ (j : Nat) (x : S30), L[j]? = some x → ∃ cs, k30.K W0 x cs ∧ ∀ (t : Nat) (u : Value), cs[t]? = some u → cur[off + (j * 4 + t)]? = some u
/-- The document's box. -/
def RB (W0 : World) (B : Nat) (w : World) (gr : Nat) (L : List S30) (most : Int) : Prop := ∃ v, w.heap[gr]? = some (.cells #[v, .int .i64 most] 41 (0, 0)) ∧ B ≤ gr ∧ SL W0 B w v L
theorem SL.row {W0 : World} {B : Nat} {w : World} {v : Value} {x : S30} {L : List S30} (h : SL W0 B w v (x :: L)) : ∃ b off c cur A2 c2 A3 c3, v = .slice (some ⟨b, off, none⟩) (L.length + 1) c ∧ L.length + 1 ≤ c ∧ c ≤ 9223372036854775807 ∧ B ≤ b ∧ w.heap[b]? = some (.cells cur 30 (0, 0)) ∧ off + c * 4 ≤ cur.size ∧ k30.K W0 x [.int .i64 x.f0, .string x.f1, .slice A2 x.f2.length c2, .slice A3 x.f3.length c3] ∧ x.f2.length ≤ c2 ∧ k49.C W0 A2 x.f2.length x.f2 ∧ x.f3.length ≤ c3 ∧ k49.C W0 A3 x.f3.length x.f3 ∧ cur[off]? = some (.int .i64 x.f0) ∧ cur[off + 1]? = some (.string x.f1) ∧ cur[off + 2]? = some (.slice A2 x.f2.length c2) ∧ cur[off + 3]? = some (.slice A3 x.f3.length c3) ∧ ∀ (j : Nat) (y : S30), L[j]? = some y → ∃ cs, k30.K W0 y cs ∧ ∀ (t : Nat) (u : Value), cs[t]? = some u → cur[off + 4 + (j * 4 + t)]? = some u := by
  obtain ⟨A, c, rfl, hl, hc, hn, hh⟩ := h
  rw [List.length_cons] at hl
  cases A with
  | none => have := hn rfl; omega
  | some ad =>
    obtain ⟨b, off, cur, rfl, hB, hb, hfit, hrow⟩ := hh ad rfl
    obtain ⟨cs, hK, hcs⟩ := hrow 0 x rfl
    have hK0 := hK
    obtain ⟨A2, c2, A3, c3, rfl, l2, C2, l3, C3⟩ := k30_open hK
    refine ⟨b, off, c, cur, A2, c2, A3, c3, rfl, hl, hc, hB, hb, hfit, hK0, l2, C2, l3, C3, hcs 0 _ rfl, hcs 1 _ rfl, hcs 2 _ rfl, hcs 3 _ rfl, fun j y hj => ?_⟩
    obtain ⟨cs', hK', hcs'⟩ := hrow (j + 1) y (by simpa using hj)
    exact ⟨cs', hK', fun t u hu => by have := hcs' t u hu; rw [show off + 4 + (j * 4 + t) = off + ((j + 1) * 4 + t) by omega]; exact this⟩
theorem fin2 (w : World) (gr : Nat) (most : Int) (v : Value) (h : w.heap[gr]? = some (.cells #[v, .int .i64 most] 41 (0, 0))) (V : Value) (o : Obj) :
    (((w.setCell ⟨gr, 0, none⟩ V).alloc o).alloc o).heap[w.heap.size]? = some o ∧ (((w.setCell ⟨gr, 0, none⟩ V).alloc o).alloc o).heap[gr]? = some (.cells #[V, .int .i64 most] 41 (0, 0)) ∧ (∀ k, k < w.heap.size → k ≠ gr → (((w.setCell ⟨gr, 0, none⟩ V).alloc o).alloc o).heap[k]? = w.heap[k]?) ∧ Fr (fun k => k = gr) w (((w.setCell ⟨gr, 0, none⟩ V).alloc o).alloc o) := by
  have hs : (w.setCell ⟨gr, 0, none⟩ V).heap.size = w.heap.size := by simp [World.setCell]
  have h1 : (w.setCell ⟨gr, 0, none⟩ V).heap[gr]? = some (.cells #[V, .int .i64 most] 41 (0, 0)) := blk_set h 0 V
  have h2 := heap_alloc_new (w.setCell ⟨gr, 0, none⟩ V) o
  rw [hs] at h2
  have f : Fr (fun k => k = gr) w (((w.setCell ⟨gr, 0, none⟩ V).alloc o).alloc o) := (Fr.store (D := fun k => k = gr) (w := w) (p := ⟨gr, 0, none⟩) V rfl).trans ((Fr.of_below (below_alloc (Below.refl _ _) o)).trans (Fr.of_below (below_alloc (Below.refl _ _) o)))
  exact ⟨blk_alloc h2 o, blk_alloc (blk_alloc h1 o) o, fun k hk hne => f.block k hk hne, f⟩
set_option maxHeartbeats 1000000 in
theorem ref_take_some (W0 w : World) (B gr : Nat) (x : S30) (L : List S30) (most : Int) (h : RB W0 B w gr (x :: L) most) :
    Calls Try.prog 12 #[.pointer (some ⟨gr, 0, none⟩)] w fun e w' => ∃ A2 c2 A3 c3, e = .returned (.tuple #[.agg #[.int .i64 x.f0, .string x.f1, .slice A2 x.f2.length c2, .slice A3 x.f3.length c3], .bool true]) ∧ x.f2.length ≤ c2 ∧ k49.C W0 A2 x.f2.length x.f2 ∧ x.f3.length ≤ c3 ∧ k49.C W0 A3 x.f3.length x.f3 ∧ RB W0 B w' gr L most ∧ Fr (fun k => k = gr) w w' := by
  obtain ⟨v, hgr, hBg, hs⟩ := h
  obtain ⟨b, off, c, cur, A2, c2, A3, c3, rfl, hl, hc, hBb, hb, hfit, hK, l2, C2, l3, C3, e0, e1, e2, e3, hrow⟩ := hs.row
  have r0 := (blk_cell hgr 0).trans rfl
  simp only [List.getElem?_toArray, List.getElem?_cons_zero, List.getElem?_cons_succ] at r0
  have lgr := blk_lt hgr
  have lb := blk_lt hb
  have x0 := (blk_cell hb off).trans e0
  have x1 := (blk_cell hb (off + 1)).trans e1
  have x2 := (blk_cell hb (off + 2)).trans e2
  have x3 := (blk_cell hb (off + 3)).trans e3
  have fz := blk_frozen hgr 0
  have HGR := Aside0.mk hgr
  have HBB := Aside0.mk hb
  clear hgr hb e0 e1 e2 e3 hs
  have hne : gr ≠ b := fun e => by have h1 := HGR.out; rw [e, HBB.out] at h1; injection h1 with h1; injection h1 with _ h1 _; exact absurd h1 (by decide)
  go_enter Try.func12, Try.ntmps12
  go_wp2_with (first
    | ((with_reducible refine gate_store (t := 30) (p := 4) (v := .tmp 17) rfl ?_); refine store30 (seg := [.int .i64 x.f0, .string x.f1, .slice A2 x.f2.length c2, .slice A3 x.f3.length c3]) rfl rfl rfl rfl rfl rfl rfl (by simp [Value.oneCell']) (heap_alloc_new (w.alloc _) _) rfl ?_; intro w3 ho3 hn3; have HO3 := Aside0.mk ho3; have BK3 := Aside0.mk hn3; clear ho3 hn3))
  · refine bodyPost_ret (results_ct rfl _ _ w.heap.size 30 _ (0, 0) _ rfl (fin2 w _ _ _ HGR.out _ _).1 Try.underlying30 rfl (by kernel_rfl)) rfl ?_
    obtain ⟨_, f1, f2, f3⟩ := fin2 w gr most _ HGR.out (.slice (some ⟨b, off, none⟩) L.length 0) (.cells #[.int .i64 x.f0, .string x.f1, .slice A2 x.f2.length c2, .slice A3 x.f3.length c3] 30 (0, 0))
    subst h
    exact ⟨A2, c2, A3, c3, rfl, l2, C2, l3, C3, ⟨_, f1, hBg, some ⟨b, off, none⟩, 0, rfl, by omega, by omega, (fun e => by cases e), fun ad e => by
      injection e with e
      refine ⟨b, off, cur, e.symm, hBb, (f2 b lb (fun e => hne e.symm)).trans HBB.out, by omega, fun j y hj => ?_⟩
      have : L.length ≤ 0 := by omega
      rw [List.length_eq_zero_iff.1 (Nat.le_zero.1 this)] at hj
      simp at hj⟩, f3⟩
  · refine bodyPost_ret (results_ct rfl _ _ w.heap.size 30 _ (0, 0) _ rfl (fin2 w _ _ _ HGR.out _ _).1 Try.underlying30 rfl (by kernel_rfl)) rfl ?_
    obtain ⟨_, f1, f2, f3⟩ := fin2 w gr most _ HGR.out (.slice (some ⟨b, off + 4, none⟩) L.length (c - 1)) (.cells #[.int .i64 x.f0, .string x.f1, .slice A2 x.f2.length c2, .slice A3 x.f3.length c3] 30 (0, 0))
    exact ⟨A2, c2, A3, c3, rfl, l2, C2, l3, C3, ⟨_, f1, hBg, some ⟨b, off + 4, none⟩, c - 1, rfl, by omega, by omega, (fun e => by cases e), fun ad e => by
      injection e with e
      exact ⟨b, off + 4, cur, e.symm, hBb, (f2 b lb (fun e => hne e.symm)).trans HBB.out, by omega, hrow⟩⟩, f3⟩
set_option maxHeartbeats 1000000 in
theorem ref_take_none (W0 w : World) (B gr : Nat) (most : Int) (h : RB W0 B w gr [] most) :
    Calls Try.prog 12 #[.pointer (some ⟨gr, 0, none⟩)] w fun e w' => e = .returned (.tuple #[z30v, .bool false]) ∧ Below w.heap.size w w' := by
  obtain ⟨v, hgr, hBg, A, c, rfl, _⟩ := h
  have r0 := (blk_cell hgr 0).trans rfl
  simp only [List.getElem?_toArray, List.getElem?_cons_zero, List.getElem?_cons_succ] at r0
  have lgr := blk_lt hgr
  clear hgr
  go_enter Try.func12, Try.ntmps12
  go_wp2
  have hb := below_alloc (Below.refl w.heap.size w) (.cells #[.int .i64 0, .string ⟨#[]⟩, .slice none 0 0, .slice none 0 0] 30 (0, 0))
  refine bodyPost_ret (results_ct rfl _ _ w.heap.size 30 _ (0, 0) _ rfl (heap_alloc_new w (.cells #[.int .i64 0, .string ⟨#[]⟩, .slice none 0 0, .slice none 0 0] 30 (0, 0))) Try.underlying30 rfl (by kernel_rfl)) rfl ?_
  exact ⟨rfl, hb⟩
end Go.Proofs.Ythbcekjiljkchaa.XM
namespace Go.Proofs.Ythbcekjiljkchaa.XM
open Go.RowKit Go.Conc Go.Proofs.YthbcekjiljkchaaW.PrintWords Go.Proofs.YthbcekjiljkchaaW.PrintLast Go.Proofs.YthbcekjiljkchaaW.PrintMore Go.Proofs.Ythbcekjiljkchaa.Comm
set_option linter.unusedVariables false
set_option linter.unusedSimpArgs false
/-- What an append to v may write. -/
def AppD (v : Value) (k : Nat) : Prop := ∃ ad n c, v = .slice (some ad) n c ∧ ad.block = k
theorem one30 {W0 : World} {x : S30} {cs : List Value} (h : k30.K W0 x cs) : ∀ u ∈ cs, u.oneCell' = true := k30.K_one h
theorem len30c {W0 : World} {x : S30} {cs : List Value} (h : k30.K W0 x cs) : cs.length = 4 := k30.K_len h
theorem grown_sl (W0 w w' : World) (B : Nat) (v' : Value) (L : List S30) (x : S30) (olds cs : List Value) (hcs : k30.K W0 x cs) (hBw : B ≤ w.heap.size) (hlo : olds.length = L.length * 4)
    (holds : ∀ (j : Nat) (y : S30), L[j]? = some y → ∃ c, k30.K W0 y c ∧ ∀ (t : Nat) (u : Value), c[t]? = some u → olds[j * 4 + t]? = some u)
    (ho : w'.ownsRow w.heap.size 30 4 v' (L.length + 1) (olds ++ cs)) : SL W0 B w' v' (L ++ [x]) := by
  have h4 := len30c hcs
  rcases ho.2 with ⟨_, hz⟩ | ⟨g, cap, cur, rfl, hg, hh, hnc, hcm, hsz, htk⟩
  · omega
  · refine ⟨some ⟨g, 0, none⟩, cap, by rw [List.length_append, List.length_singleton], by rw [List.length_append, List.length_singleton]; exact hnc, by simp only [maxLen] at hcm; omega, (fun e => by cases e), fun ad e => ?_⟩
    injection e with e
    refine ⟨g, 0, cur, e.symm, Nat.le_trans hBw hg, hh, by rw [hsz]; omega, fun j y hj => ?_⟩
    have key : ∀ i u, i < (L.length + 1) * 4 → (olds ++ cs)[i]? = some u → cur[i]? = some u := fun i u hi hu => by
      rw [← htk, List.getElem?_take, if_pos hi] at hu
      rw [← Array.getElem?_toList]; exact hu
    by_cases hjl : j < L.length
    · rw [List.getElem?_append_left hjl] at hj
      obtain ⟨c, hK, hc⟩ := holds j y hj
      refine ⟨c, hK, fun t u hu => ?_⟩
      have ht : t < 4 := by have := (List.getElem?_eq_some_iff.1 hu).1; rw [len30c hK] at this; exact this
      rw [Nat.zero_add]
      refine key _ _ (by omega) ?_
      rw [List.getElem?_append_left (by rw [hlo]; omega)]
      exact hc t u hu
    · have hjl' : L.length ≤ j := by omega
      rw [List.getElem?_append_right hjl'] at hj
      have hj0 : j - L.length = 0 := by
        rcases Nat.eq_zero_or_pos (j - L.length) with h | h
        · exact h
        · rw [List.getElem?_eq_none (by rw [List.length_singleton]; omega)] at hj; cases hj
      rw [hj0] at hj
      obtain rfl : x = y := by simpa using hj
      have hjj : j = L.length := by omega
      subst hjj
      refine ⟨cs, hcs, fun t u hu => ?_⟩
      have ht : t < 4 := by have := (List.getElem?_eq_some_iff.1 hu).1; omega
      rw [Nat.zero_add]
      refine key _ _ (by omega) ?_
      rw [List.getElem?_append_right (by rw [hlo]; omega), hlo, show L.length * 4 + t - L.length * 4 = t by omega]
      exact hu
theorem run_app (W0 w : World) (B : Nat) (v : Value) (L : List S30) (hL : L.length ≤ 1000) (hS : SL W0 B w v L) (hBw : B ≤ w.heap.size) (x : S30) (cs : List Value) (hcs : k30.K W0 x cs) (ad : Addr) (c' : Nat) (hx : ∀ t u, cs[t]? = some u → w.cell? (ad.add t) = some u) :
    ∃ v' w', (Builtin.append_ #[38, 38] 38 #[v, .slice (some ad) 1 c']).run Try.prog w = .ok v' w' ∧ SL W0 B w' v' (L ++ [x]) ∧ Fr (AppD v) w w' := by
  obtain ⟨i, hi, hi0⟩ := Option.map_eq_some_iff.1 info30
  simp only [Prod.mk.injEq] at hi0
  obtain ⟨z0, z1, z2⟩ := hi0
  have h4 := len30c hcs
  obtain ⟨A, c, rfl, hl, hc, hn, hh⟩ := hS
  cases A with
  | none =>
    obtain rfl := hn rfl
    have hL0 : L = [] := List.length_eq_zero_iff.1 (by omega)
    subst hL0
    obtain ⟨v', w', hrun, r1, r2, _⟩ := run_append_own (P := Try.prog) w w.heap.size 38 38 30 i z30v 4 72 Try.underlying38 hi z0 z1 z2 rfl (by decide) (.slice none 0 0) 0 [] (World.ownsRow_nil w _ 30 4) ad 1 c' cs (by omega) hx (one30 hcs) (by decide) (by decide) (Nat.le_refl _)
    refine ⟨v', w', hrun, grown_sl W0 w w' B v' [] x [] cs hcs hBw rfl (fun j y hj => by simp at hj) r1, r2.os, r2.tape, r2.output, r2.size, fun k hk hd => r2.block k hk (fun e => ?_)⟩
    simp [Value.ownBlock] at e
  | some a =>
    obtain ⟨b, off, cur, rfl, hB, hb, hfit, hrow⟩ := hh a rfl
    by_cases hroom : L.length + 1 ≤ c
    · have hrun := run_append_room_cells (P := Try.prog) w 38 38 30 i Try.underlying38 hi b off L.length c ad 1 c' cs (by rw [z1]; omega) hx (one30 hcs) hroom (fun j hj => by rw [z1, blk_cell hb, Array.getElem?_eq_getElem (show off + L.length * 4 + j < cur.size by omega)]; rfl) (fun j _ => blk_frozen hb _)
      rw [z1] at hrun
      obtain ⟨cur', r1, r2, r3⟩ := setCells_row cs (off + L.length * 4) w cur hb (by omega)
      obtain ⟨s1, s2, s3, s4⟩ := setCells_same b cs (off + L.length * 4) w
      refine ⟨_, _, hrun, ⟨some ⟨b, off, none⟩, c, by rw [List.length_append, List.length_singleton], by rw [List.length_append, List.length_singleton]; exact hroom, hc, (fun e => by cases e), fun ad' e => ?_⟩, s1, s2, s3, Nat.le_of_eq s4.symm, fun k _ hd => setCells_far cs _ k (fun e => hd ⟨_, _, _, rfl, e.symm⟩)⟩
      injection e with e
      refine ⟨b, off, cur', e.symm, hB, r1, by rw [r2]; exact hfit, fun j y hj => ?_⟩
      have hcl : cur.toList.length = cur.size := Array.length_toList
      have lo : ∀ i u, i < off + L.length * 4 → cur[i]? = some u → cur'[i]? = some u := fun i u hi hu => by
        rw [← Array.getElem?_toList, r3, List.append_assoc, List.getElem?_append_left (by rw [List.length_take]; omega), List.getElem?_take, if_pos hi, Array.getElem?_toList]; exact hu
      have hi' : ∀ t u, cs[t]? = some u → cur'[off + L.length * 4 + t]? = some u := fun t u hu => by
        have ht := (List.getElem?_eq_some_iff.1 hu).1
        rw [← Array.getElem?_toList, r3, List.append_assoc, List.getElem?_append_right (by rw [List.length_take]; omega), List.length_take, show off + L.length * 4 + t - min (off + L.length * 4) cur.toList.length = t by omega, List.getElem?_append_left ht]; exact hu
      by_cases hjl : j < L.length
      · rw [List.getElem?_append_left hjl] at hj
        obtain ⟨c2, hK, hc2⟩ := hrow j y hj
        refine ⟨c2, hK, fun t u hu => ?_⟩
        have ht : t < 4 := by have := (List.getElem?_eq_some_iff.1 hu).1; rw [len30c hK] at this; exact this
        exact lo _ _ (by omega) (hc2 t u hu)
      · have hjl' : L.length ≤ j := by omega
        rw [List.getElem?_append_right hjl'] at hj
        have hj0 : j - L.length = 0 := by
          rcases Nat.eq_zero_or_pos (j - L.length) with h | h
          · exact h
          · rw [List.getElem?_eq_none (by rw [List.length_singleton]; omega)] at hj; cases hj
        rw [hj0] at hj
        obtain rfl : x = y := by simpa using hj
        have hjj : j = L.length := by omega
        subst hjj
        exact ⟨cs, hcs, fun t u hu => by rw [← Nat.add_assoc]; exact hi' t u hu⟩
    · have hcl : cur.toList.length = cur.size := Array.length_toList
      have hol : ((cur.toList.drop off).take (L.length * 4)).length = L.length * 4 := by rw [List.length_take, List.length_drop]; omega
      have hog : ∀ i u, i < L.length * 4 → cur[off + i]? = some u → ((cur.toList.drop off).take (L.length * 4))[i]? = some u := fun i u hi hu => by
        rw [List.getElem?_take, if_pos hi, List.getElem?_drop, Array.getElem?_toList]; exact hu
      have hog2 : ∀ i u, ((cur.toList.drop off).take (L.length * 4))[i]? = some u → cur[off + i]? = some u := fun i u hu => by
        rw [List.getElem?_take] at hu
        split at hu
        · rw [List.getElem?_drop, Array.getElem?_toList] at hu; exact hu
        · cases hu
      obtain ⟨v', w', hrun, q1, q2⟩ := run_append_arg_grows (P := Try.prog) w 38 38 30 i z30v 4 72 Try.underlying38 hi z0 z1 z2 rfl (by decide) ⟨b, off, none⟩ L.length c ((cur.toList.drop off).take (L.length * 4)) hol (fun j u hj => by rw [Addr.add_lit, blk_cell hb]; exact hog2 j u hj) ad 1 c' cs (by omega) hx (by omega) (by simp only [maxLen]; omega) (by omega)
      refine ⟨v', w', hrun, grown_sl W0 w w' B v' L x _ cs hcs hBw hol (fun j y hj => ?_) q1, q2.os, q2.tape, q2.output, q2.size, fun k hk hd => q2.block k hk (fun e => by cases e)⟩
      obtain ⟨c2, hK, hc2⟩ := hrow j y hj
      refine ⟨c2, hK, fun t u hu => ?_⟩
      have ht : t < 4 := by have := (List.getElem?_eq_some_iff.1 hu).1; rw [len30c hK] at this; exact this
      have hjl := (List.getElem?_eq_some_iff.1 hj).1
      exact hog _ _ (by omega) (hc2 t u hu)
end Go.Proofs.Ythbcekjiljkchaa.XM
namespace Go.Proofs.Ythbcekjiljkchaa.XM
open Go.RowKit Go.Conc Go.Proofs.YthbcekjiljkchaaW.PrintWords Go.Proofs.YthbcekjiljkchaaW.PrintLast Go.Proofs.YthbcekjiljkchaaW.PrintMore Go.Proofs.Ythbcekjiljkchaa.Comm
set_option linter.unusedVariables false
set_option linter.unusedSimpArgs false
def ref_Offer.T1 : Bool × List (List Nat × List Nat) := (true, [([], []), ([0], [0]), ([1], [1]), ([2], [2]), ([3], [3]), ([], []), ([5], [5]), ([6], [6]), ([7], [7]), ([4, 8], [4, 8])])
def ref_Offer.B1 : List Nat := [0, 1, 3, 7, 15, 0, 32, 96, 224, 511]
theorem ref_Offer.tab1 : rtab .any (opsOf Try.f17 1) = ref_Offer.T1 := by kernel_rfl
theorem ref_Offer.bits1 : waitsOk ref_Offer.T1.2 ref_Offer.B1 = true := by kernel_rfl
def ref_Offer.T3 : Bool × List (List Nat × List Nat) := (true, [([], []), ([], []), ([1], [1]), ([2], [2]), ([3], [3]), ([], []), ([5], [5]), ([4, 6], [4, 6]), ([0, 0, 1, 2, 3, 4, 5, 6, 7], [0]), ([8, 0, 1, 2, 3, 4, 5, 6, 7], [8]), ([9, 7, 7, 0, 1, 2, 3, 4, 5, 6, 7], [7, 9])])
def ref_Offer.B3 : List Nat := [0, 0, 2, 6, 14, 0, 32, 126, 255, 511, 1023]
theorem ref_Offer.tab3 : rtab .any (opsOf Try.f17 3) = ref_Offer.T3 := by kernel_rfl
theorem ref_Offer.bits3 : waitsOk ref_Offer.T3.2 ref_Offer.B3 = true := by kernel_rfl
theorem Fr.wk {D D' : Nat → Prop} {w w' : World} (h : Fr D w w') (hD : ∀ k, D k → D' k) : Fr D' w w' := ⟨h.os, h.tape, h.output, h.size, fun k hk hd => h.block k hk (fun hh => hd (hD k hh))⟩
theorem SL.drew {W0 : World} {B : Nat} {w : World} {v : Value} {L : List S30} (h : SL W0 B w v L) : SL W0 B w.drew v L := h
theorem SL.cells {W0 : World} {B : Nat} {w w' : World} {v : Value} {L : List S30} (h : SL W0 B w v L) (hm : ∀ k, AppD v k → k < w.heap.size → w'.heap[k]? = w.heap[k]?) : SL W0 B w' v L := by
  obtain ⟨A, c, rfl, h1, h2, h3, h4⟩ := h
  refine ⟨A, c, rfl, h1, h2, h3, fun ad e => ?_⟩
  obtain ⟨b, off, cur, e2, h5, h6, h7⟩ := h4 ad e
  exact ⟨b, off, cur, e2, h5, (hm b ⟨ad, _, _, by rw [e], by rw [e2]⟩ (blk_lt h6)).trans h6, h7⟩
theorem SL.below {W0 : World} {B : Nat} {w w' : World} {v : Value} {L : List S30} (h : SL W0 B w v L) (hb : Below w.heap.size w w') : SL W0 B w' v L := h.cells (fun k _ hk => hb.block k hk)
theorem appD_of {W0 : World} {B : Nat} {w : World} {v : Value} {L : List S30} (h : SL W0 B w v L) {k : Nat} (hk : AppD v k) : k < w.heap.size ∧ B ≤ k ∧ ∃ cur, w.heap[k]? = some (.cells cur 30 (0, 0)) := by
  obtain ⟨A, c, rfl, h1, h2, h3, h4⟩ := h
  obtain ⟨ad, n, c', e, rfl⟩ := hk
  injection e with e _ _
  obtain ⟨b, off, cur, rfl, h5, h6, h7⟩ := h4 ad e
  exact ⟨blk_lt h6, h5, cur, h6⟩
set_option maxHeartbeats 2000000 in
theorem ref_offer (W0 w : World) (B gr cap : Nat) (L : List S30) (m : S30) (A2 A3 : Option Addr) (c2 c3 : Nat) (h : RB W0 B w gr L (cap : Int)) (hL : L.length ≤ 1000) (l2 : m.f2.length ≤ c2) (C2 : k49.C W0 A2 m.f2.length m.f2) (l3 : m.f3.length ≤ c3) (C3 : k49.C W0 A3 m.f3.length m.f3) (hBw : B ≤ w.heap.size) :
    Calls Try.prog 17 #[.pointer (some ⟨gr, 0, none⟩), .agg #[.int .i64 m.f0, .string m.f1, .slice A2 m.f2.length c2, .slice A3 m.f3.length c3]] w fun e w' => e = .returned (.bool (room cap L)) ∧ RB W0 B w' gr (offered cap L m) (cap : Int) ∧ Fr (fun k => k = gr ∨ (B ≤ k ∧ ∃ cur, w.heap[k]? = some (.cells cur 30 (0, 0)))) w w' := by
  obtain ⟨v, hgr, hBg, hs⟩ := h
  have hSL0 := hs
  obtain ⟨A, c, rfl, _⟩ := hs
  have hb := below_alloc (Below.refl w.heap.size w) (.cells #[.int .i64 m.f0, .string m.f1, .slice A2 m.f2.length c2, .slice A3 m.f3.length c3] 30 (0, 0))
  have HGR := Aside0.mk (blk_below hgr hb)
  have HBX := Aside0.mk (heap_alloc_new w (.cells #[.int .i64 m.f0, .string m.f1, .slice A2 m.f2.length c2, .slice A3 m.f3.length c3] 30 (0, 0)))
  have HSL := Aside0.mk (hSL0.below hb)
  have HB := Aside0.mk hb
  have hgr0 := hgr
  clear hb hgr
  go_enter Try.func17, Try.ntmps17
  go_wp2
  refine start_ (n := 10) (S := fun w' => w'.cell? ⟨gr, 0, none⟩ = some (.slice A L.length c) ∧ w'.cell? ⟨gr, 1, none⟩ = some (.int .i64 (cap : Int))) (ds := []) #[false, false, false, false, false, false, false, false, false, false] (by kernel_rfl) rfl rfl ⟨(blk_cell HGR.out 0).trans rfl, (blk_cell HGR.out 1).trans rfl⟩ (fun hHeld => ?_)
  refine with_tabW ref_Offer.tab1 ref_Offer.bits1 (fun HT_ HW_ => ?_)
  have n0_ := Aside0.mk (blk_drew HGR.out)
  have n1_ := Aside0.mk (blk_drew HBX.out)
  have n2_ := Aside0.mk (SL.drew HSL.out)
  have n3_ := Aside0.mk (below_drew1 HB.out)
  clear HGR HBX HSL HB
  have HGR := n0_
  have HBX := n1_
  have HSL := n2_
  have HB := n3_
  clear n0_ n1_ n2_ n3_
  generalize (w.alloc (.cells #[.int .i64 m.f0, .string m.f1, .slice A2 m.f2.length c2, .slice A3 m.f3.length c3] 30)).drew = w5 at HGR HBX HSL HB hHeld ⊢
  refine pure_ (i := 0) (N := (some 5)) (v := ?_) (a' := ?_) #[true, false, false, false, false, false, false, false, false, false] rfl rfl (any_of HT_.out (by kernel_rfl)) (fun _ _ _ h => h) (Or.inl ⟨by rfl, ?_⟩) ?_ ?_
  rotate_left
  · intro w'
    go_simp
    with_reducible rfl
  rotate_left
  · simp only [Act.put, List.setIfInBounds_toArray, List.set_cons_zero, List.set_cons_succ, i64_w, i32_w]
    rfl
  refine pure_ (i := 1) (N := (some 6)) (v := ?_) (a' := ?_) #[true, true, false, false, false, false, false, false, false, false] rfl rfl (any_of HT_.out (by kernel_rfl)) (fun _ _ _ h => h) (Or.inl ⟨by rfl, ?_⟩) ?_ ?_
  rotate_left
  · intro w'
    go_simp
    with_reducible rfl
  rotate_left
  · simp only [Act.put, List.setIfInBounds_toArray, List.set_cons_zero, List.set_cons_succ, i64_w, i32_w]
    rfl
  refine pure_ (i := 2) (N := (some 7)) (v := ?_) (a' := ?_) #[true, true, true, false, false, false, false, false, false, false] rfl rfl (any_of HT_.out (by kernel_rfl)) (fun _ _ _ h => h) (Or.inl ⟨by rfl, ?_⟩) ?_ ?_
  rotate_left
  · intro w'
    go_simp
    with_reducible rfl
  rotate_left
  · simp only [Act.put, List.setIfInBounds_toArray, List.set_cons_zero, List.set_cons_succ, i64_w, i32_w]
    rfl
  refine take_ (i := 3) (N := (some 8)) (v := ?_) (a' := ?_) #[true, true, true, true, false, false, false, false, false, false] rfl rfl (take_ofW HT_.out HW_.out (by kernel_rfl)) (fun _ _ _ h => h) (Or.inl ⟨by rfl, ?_⟩) hHeld ?_ ?_
  rotate_left
  · rintro w' ⟨s0, s1⟩
    go_simp
    with_reducible rfl
  rotate_left
  · simp only [Act.put, List.setIfInBounds_toArray, List.set_cons_zero, List.set_cons_succ, i64_w, i32_w]
    rfl
  refine take_ (i := 4) (N := (some 9)) (v := ?_) (a' := ?_) #[true, true, true, true, true, false, false, false, false, false] rfl rfl (take_ofW HT_.out HW_.out (by kernel_rfl)) (fun _ _ _ h => h) (Or.inl ⟨by rfl, ?_⟩) hHeld ?_ ?_
  rotate_left
  · rintro w' ⟨s0, s1⟩
    go_simp
    with_reducible rfl
  rotate_left
  · simp only [Act.put, List.setIfInBounds_toArray, List.set_cons_zero, List.set_cons_succ, i64_w, i32_w]
    rfl
  refine pure_ (i := 5) (N := (some 10)) (v := ?_) (a' := ?_) #[true, true, true, true, true, true, false, false, false, false] rfl rfl (any_of HT_.out (by kernel_rfl)) (fun _ _ _ h => h) (Or.inl ⟨by rfl, ?_⟩) ?_ ?_
  rotate_left
  · intro w'
    go_simp
    with_reducible rfl
  rotate_left
  · simp only [Act.put, List.setIfInBounds_toArray, List.set_cons_zero, List.set_cons_succ, i64_w, i32_w]
    rfl
  refine pure_ (i := 6) (N := (some 11)) (v := ?_) (a' := ?_) #[true, true, true, true, true, true, true, false, false, false] rfl rfl (any_of HT_.out (by kernel_rfl)) (fun _ _ _ h => h) (Or.inl ⟨by rfl, ?_⟩) ?_ ?_
  rotate_left
  · intro w'
    go_simp
    with_reducible rfl
  rotate_left
  · simp only [Act.put, List.setIfInBounds_toArray, List.set_cons_zero, List.set_cons_succ, i64_w, i32_w]
    rfl
  refine pure_ (i := 7) (N := (some 12)) (v := ?_) (a' := ?_) #[true, true, true, true, true, true, true, true, false, false] rfl rfl (any_of HT_.out (by kernel_rfl)) (fun _ _ _ h => h) (Or.inl ⟨by rfl, ?_⟩) ?_ ?_
  rotate_left
  · intro w'
    go_simp
    with_reducible rfl
  rotate_left
  · simp only [Act.put, List.setIfInBounds_toArray, List.set_cons_zero, List.set_cons_succ, i64_w, i32_w]
    rfl
  refine take_ (i := 8) (N := (some 13)) (v := ?_) (a' := ?_) #[true, true, true, true, true, true, true, true, true, false] rfl rfl (take_ofW HT_.out HW_.out (by kernel_rfl)) (fun _ _ _ h => h) (Or.inl ⟨by rfl, ?_⟩) hHeld ?_ ?_
  rotate_left
  · rintro w' ⟨s0, s1⟩
    go_simp
    with_reducible rfl
  rotate_left
  · simp only [Act.put, List.setIfInBounds_toArray, List.set_cons_zero, List.set_cons_succ, i64_w, i32_w]
    rfl
  refine pure_ (i := 9) (N := (some 14)) (v := ?_) (a' := ?_) #[true, true, true, true, true, true, true, true, true, true] rfl rfl (any_of HT_.out (by kernel_rfl)) (fun _ _ _ h => h) (Or.inl ⟨by rfl, ?_⟩) ?_ ?_
  rotate_left
  · intro w'
    go_simp
    with_reducible rfl
  rotate_left
  · simp only [Act.put, List.setIfInBounds_toArray, List.set_cons_zero, List.set_cons_succ, i64_w, i32_w]
    rfl
  refine done_ (done_of HT_.out (by kernel_rfl)) ?_
  by_cases hr : L.length < cap
  · have hroom : room cap L = true := decide_eq_true hr
    have hoff : offered cap L m = L ++ [m] := if_pos hr
    have b1 : decide ((L.length : Int) ≥ (cap : Int)) = false := decide_eq_false (by omega)
    have b2 : decide ((cap : Int) ≤ (L.length : Int)) = false := decide_eq_false (by omega)
    go_wp2
    refine start_ (n := 11) (S := fun w' => w'.cell? ⟨gr, 0, none⟩ = some (.slice A L.length c) ∧ w'.cell? ⟨w.heap.size, 0, none⟩ = some (.int .i64 m.f0) ∧ w'.cell? ⟨w.heap.size, 1, none⟩ = some (.string m.f1) ∧ w'.cell? ⟨w.heap.size, 2, none⟩ = some (.slice A2 m.f2.length c2) ∧ w'.cell? ⟨w.heap.size, 3, none⟩ = some (.slice A3 m.f3.length c3)) (ds := [10]) #[false, false, false, false, false, false, false, false, false, false, false] (by kernel_rfl) rfl rfl ⟨(blk_cell HGR.out 0).trans rfl, (blk_cell HBX.out 0).trans rfl, (blk_cell HBX.out 1).trans rfl, (blk_cell HBX.out 2).trans rfl, (blk_cell HBX.out 3).trans rfl⟩ (fun hHeld => ?_)
    refine with_tabW ref_Offer.tab3 ref_Offer.bits3 (fun HT_ HW_ => ?_)
    have n0_ := Aside0.mk (blk_drew HGR.out)
    have n1_ := Aside0.mk (blk_drew HBX.out)
    have n2_ := Aside0.mk (SL.drew HSL.out)
    have n3_ := Aside0.mk (below_drew1 HB.out)
    clear HGR HBX HSL HB
    have HGR := n0_
    have HBX := n1_
    have HSL := n2_
    have HB := n3_
    clear n0_ n1_ n2_ n3_
    generalize w5.drew = w6 at HGR HBX HSL HB hHeld ⊢
    refine pure_ (i := 0) (N := (some 15)) (v := ?_) (a' := ?_) #[true, false, false, false, false, false, false, false, false, false, false] rfl rfl (any_of HT_.out (by kernel_rfl)) (fun _ _ _ h => h) (Or.inl ⟨by rfl, ?_⟩) ?_ ?_
    rotate_left
    · intro w'
      go_simp
      with_reducible rfl
    rotate_left
    · simp only [Act.put, List.setIfInBounds_toArray, List.set_cons_zero, List.set_cons_succ, i64_w, i32_w]
      rfl
    refine pure_ (i := 1) (N := (some 16)) (v := ?_) (a' := ?_) #[true, true, false, false, false, false, false, false, false, false, false] rfl rfl (any_of HT_.out (by kernel_rfl)) (fun _ _ _ h => h) (Or.inl ⟨by rfl, ?_⟩) ?_ ?_
    rotate_left
    · intro w'
      go_simp
      with_reducible rfl
    rotate_left
    · simp only [Act.put, List.setIfInBounds_toArray, List.set_cons_zero, List.set_cons_succ, i64_w, i32_w]
      rfl
    refine pure_ (i := 2) (N := (some 17)) (v := ?_) (a' := ?_) #[true, true, true, false, false, false, false, false, false, false, false] rfl rfl (any_of HT_.out (by kernel_rfl)) (fun _ _ _ h => h) (Or.inl ⟨by rfl, ?_⟩) ?_ ?_
    rotate_left
    · intro w'
      go_simp
      with_reducible rfl
    rotate_left
    · simp only [Act.put, List.setIfInBounds_toArray, List.set_cons_zero, List.set_cons_succ, i64_w, i32_w]
      rfl
    refine pure_ (i := 3) (N := (some 18)) (v := ?_) (a' := ?_) #[true, true, true, true, false, false, false, false, false, false, false] rfl rfl (any_of HT_.out (by kernel_rfl)) (fun _ _ _ h => h) (Or.inl ⟨by rfl, ?_⟩) ?_ ?_
    rotate_left
    · intro w'
      go_simp
      with_reducible rfl
    rotate_left
    · simp only [Act.put, List.setIfInBounds_toArray, List.set_cons_zero, List.set_cons_succ, i64_w, i32_w]
      rfl
    refine take_ (i := 4) (N := (some 19)) (v := ?_) (a' := ?_) #[true, true, true, true, true, false, false, false, false, false, false] rfl rfl (take_ofW HT_.out HW_.out (by kernel_rfl)) (fun _ _ _ h => h) (Or.inl ⟨by rfl, ?_⟩) hHeld ?_ ?_
    rotate_left
    · rintro w' ⟨s0, s1, s2, s3, s4⟩
      go_simp
      with_reducible rfl
    rotate_left
    · simp only [Act.put, List.setIfInBounds_toArray, List.set_cons_zero, List.set_cons_succ, i64_w, i32_w]
      rfl
    refine take_ (i := 5) (N := (some 20)) (v := ?_) (a' := ?_) #[true, true, true, true, true, true, false, false, false, false, false] rfl rfl (take_ofW HT_.out HW_.out (by kernel_rfl)) (fun _ _ _ h => h) (Or.inl ⟨by rfl, ?_⟩) hHeld ?_ ?_
    rotate_left
    · rintro w' ⟨s0, s1, s2, s3, s4⟩
      go_simp
      with_reducible rfl
    rotate_left
    · simp only [Act.put, List.setIfInBounds_toArray, List.set_cons_zero, List.set_cons_succ, i64_w, i32_w]
      rfl
    refine one_ (i := 6) (N := (some 21)) #[true, true, true, true, true, true, true, false, false, false, false] rfl rfl (one_of HT_.out (by kernel_rfl)) (by decide) (fun K hK => ?_)
    refine value_ (by rfl) rfl (w1 := w6.alloc (.cells #[.int .i64 m.f0, .string m.f1, .slice A2 m.f2.length c2, .slice A3 m.f3.length c3] 30)) (v := .slice (some ⟨w6.heap.size, 0, none⟩) 1 1) ?_ ?_
    · first | (go_simp; done) | (go_simp; rfl)
    have hb6 := below_alloc (Below.refl w6.heap.size w6) (.cells #[.int .i64 m.f0, .string m.f1, .slice A2 m.f2.length c2, .slice A3 m.f3.length c3] 30 (0, 0))
    have hn6 := heap_alloc_new w6 (.cells #[.int .i64 m.f0, .string m.f1, .slice A2 m.f2.length c2, .slice A3 m.f3.length c3] 30 (0, 0))
    have n0_ := Aside0.mk (blk_below HGR.out hb6)
    have n1_ := Aside0.mk (blk_below HBX.out hb6)
    have n2_ := Aside0.mk (SL.below HSL.out hb6)
    have n3_ := Aside0.mk (below_step HB.out hb6)
    clear HGR HBX HSL HB
    have HGR := n0_
    have HBX := n1_
    have HSL := n2_
    have HB := n3_
    clear n0_ n1_ n2_ n3_
    have HN6 := Aside0.mk hn6
    clear hb6 hn6
    obtain ⟨gn, hgn⟩ : ∃ gn, gn = w6.heap.size := ⟨_, rfl⟩
    rw [← hgn] at HN6 ⊢
    generalize w6.alloc (.cells #[.int .i64 m.f0, .string m.f1, .slice A2 m.f2.length c2, .slice A3 m.f3.length c3] 30) = w7 at HGR HBX HSL HB HN6 ⊢
    refine hK.out _ _ ⟨(blk_cell HGR.out 0).trans rfl, (blk_cell HBX.out 0).trans rfl, (blk_cell HBX.out 1).trans rfl, (blk_cell HBX.out 2).trans rfl, (blk_cell HBX.out 3).trans rfl⟩ (fun hHeld => ?_)
    clear hK K
    refine norm_ (a' := ?_) ?_ ?_
    rotate_left
    · show Act.put _ (some 21) _ = _
      simp only [Act.put, List.setIfInBounds_toArray, List.set_cons_zero, List.set_cons_succ, i64_w, i32_w]
      rfl
    refine one_ (i := 7) (N := (some 22)) #[true, true, true, true, true, true, true, true, false, false, false] rfl rfl (one_of HT_.out (by kernel_rfl)) (by decide) (fun K hK => ?_)
    obtain ⟨v', w8, hrun, hS8, hf8⟩ := run_app W0 w7 B _ L hL HSL.out (Nat.le_trans hBw HB.out.size) m [.int .i64 m.f0, .string m.f1, .slice A2 m.f2.length c2, .slice A3 m.f3.length c3] (k30_mk W0 m l2 C2 l3 C3) ⟨gn, 0, none⟩ 1 (fun t u hu => by rw [Addr.add_lit, Nat.zero_add, blk_cell HN6.out]; rw [← Array.getElem?_toList]; exact hu)
    have hS8' := hS8
    obtain ⟨A9, c9, rfl, _⟩ := hS8'
    refine value_ (v := .slice A9 (L ++ [m]).length c9) (w1 := w8) (by rfl) rfl ?_ ?_
    · simp [execOp, resolve, Deferred.ofValue, invoke, builtin, Act.eval, hrun, Result.andThen]
    have hd : ∀ k, AppD (.slice A L.length c) k → k < w.heap.size ∧ B ≤ k ∧ ∃ cur, w.heap[k]? = some (.cells cur 30 (0, 0)) := fun k hk => appD_of hSL0 hk
    have n0_ := Aside0.mk ((hf8.block gr (blk_lt HGR.out) (fun h => absurd (hd gr h) (by rintro ⟨_, _, cur, hc⟩; rw [hgr0] at hc; injection hc with hc; injection hc with _ hc _; exact absurd hc (by decide)))).trans HGR.out)
    have n1_ := Aside0.mk ((hf8.block _ (blk_lt HBX.out) (fun h => absurd (hd _ h).1 (Nat.lt_irrefl _))).trans HBX.out)
    clear HGR HBX
    have HGR := n0_
    have HBX := n1_
    clear n0_ n1_
    have HS8 := Aside0.mk hS8
    have HF8 := Aside0.mk hf8
    clear hrun hS8 hf8
    refine hK.out _ _ ⟨(blk_cell HGR.out 0).trans rfl, (blk_cell HBX.out 0).trans rfl, (blk_cell HBX.out 1).trans rfl, (blk_cell HBX.out 2).trans rfl, (blk_cell HBX.out 3).trans rfl⟩ (fun hHeld => ?_)
    clear hK K
    refine norm_ (a' := ?_) ?_ ?_
    rotate_left
    · show Act.put _ (some 22) _ = _
      simp only [Act.put, List.setIfInBounds_toArray, List.set_cons_zero, List.set_cons_succ, i64_w, i32_w]
      rfl
    refine pure_ (i := 8) (N := (some 23)) (v := ?_) (a' := ?_) #[true, true, true, true, true, true, true, true, true, false, false] rfl rfl (any_of HT_.out (by kernel_rfl)) (fun _ _ _ h => h) (Or.inl ⟨by rfl, ?_⟩) ?_ ?_
    rotate_left
    · intro w'
      go_simp
      with_reducible rfl
    rotate_left
    · simp only [Act.put, List.setIfInBounds_toArray, List.set_cons_zero, List.set_cons_succ, i64_w, i32_w]
      rfl
    refine pure_ (i := 9) (N := (some 24)) (v := ?_) (a' := ?_) #[true, true, true, true, true, true, true, true, true, true, false] rfl rfl (any_of HT_.out (by kernel_rfl)) (fun _ _ _ h => h) (Or.inl ⟨by rfl, ?_⟩) ?_ ?_
    rotate_left
    · intro w'
      go_simp
      with_reducible rfl
    rotate_left
    · simp only [Act.put, List.setIfInBounds_toArray, List.set_cons_zero, List.set_cons_succ, i64_w, i32_w]
      rfl
    refine last_ (i := 10) (N := none) #[true, true, true, true, true, true, true, true, true, true, true] rfl rfl (one_of HT_.out (by kernel_rfl)) (by decide) (fun K hK => ?_)
    refine skip_ (w1 := w8.setCell ⟨gr, 0, none⟩ (.slice A9 (L ++ [m]).length c9)) (by rfl) rfl ?_ ?_
    · have f0 := blk_frozen HGR.out 0
      have f1 := (blk_cell HGR.out 0).trans rfl
      simp only [List.getElem?_toArray, List.getElem?_cons_zero] at f1
      first | (go_simp; done) | (go_simp; rfl)
    refine hK.out _ _ ?_
    clear hK K
    refine done_ (done_of HT_.out (by kernel_rfl)) ?_
    go_wp2
    go_ret
    rw [hoff]
    refine ⟨congrArg Ending.returned (congrArg Value.bool hroom.symm), ⟨_, blk_set HGR.out 0 _, hBg, HS8.out.cells (fun k hk _ => Below.heap_setCell w8 ⟨gr, 0, none⟩ _ k (fun e => ?_))⟩, ((Fr.of_below HB.out).trans (HF8.out.wk (fun k hk => Or.inr (hd k hk).2))).trans (Fr.store (p := ⟨gr, 0, none⟩) _ (Or.inl rfl))⟩
    obtain ⟨_, _, cur, hc⟩ := appD_of HS8.out hk
    rw [show k = gr from e, HGR.out] at hc
    injection hc with hc
    injection hc with _ hc _
    exact absurd hc (by decide)
  · have hroom : room cap L = false := decide_eq_false hr
    have hoff : offered cap L m = L := if_neg hr
    have b1 : decide ((L.length : Int) ≥ (cap : Int)) = true := decide_eq_true (by omega)
    have b2 : decide ((cap : Int) ≤ (L.length : Int)) = true := decide_eq_true (by omega)
    go_wp2
    go_ret
    rw [hoff]
    exact ⟨congrArg Ending.returned (congrArg Value.bool hroom.symm), ⟨_, HGR.out, hBg, HSL.out⟩, Fr.of_below HB.out⟩
end Go.Proofs.Ythbcekjiljkchaa.XM
namespace Go.Proofs.Ythbcekjiljkchaa.XM
open Go.RowKit Go.Proofs.YthbcekjiljkchaaW.PrintWords Go.Proofs.YthbcekjiljkchaaW.PrintLast Go.Proofs.YthbcekjiljkchaaW.PrintMore Go.Proofs.Ythbcekjiljkchaa.Open
set_option linter.unusedVariables false
structure S32 where
  f0 : Int
  f1 : S30
def z32 : S32 := ⟨(0 : Int), z30⟩
def k32 : Kd S32 := Kd.iso (Kd.pair (Kd.int .i64) k30) (fun x : S32 => (x.f0, x.f1))
theorem k32_open {w : World} {x : S32} {cs : List Value} (h : k32.K w x cs) : ∃ A3 c3 A4 c4, cs = [.int .i64 x.f0, .int .i64 x.f1.f0, .string x.f1.f1, .slice A3 x.f1.f2.length c3, .slice A4 x.f1.f3.length c4] ∧ x.f1.f2.length ≤ c3 ∧ k49.C w A3 x.f1.f2.length x.f1.f2 ∧ x.f1.f3.length ≤ c4 ∧ k49.C w A4 x.f1.f3.length x.f1.f3 := by
  obtain ⟨_, _, rfl, rfl, s1⟩ := h
  obtain ⟨A3, c3, A4, c4, rfl, l3, g3, l4, g4⟩ := k30_open s1
  exact ⟨A3, c3, A4, c4, rfl, l3, g3, l4, g4⟩
theorem at_T32 {w : World} {A : Option Addr} {n : Nat} {xs : List S32} (h : Kd.C k32 w A n xs) (i : Nat) (hi : i < xs.length) (h1 : i < n) : ∃ ad A3 c3 A4 c4, A = some ad ∧ w.cell? (ad.add (i * 5)) = some (.int .i64 xs[i].f0) ∧ w.cell? ⟨(ad.add (i * 5)).block, (ad.add (i * 5)).off + 1, none⟩ = some (.int .i64 xs[i].f1.f0) ∧ w.cell? ⟨(ad.add (i * 5)).block, (ad.add (i * 5)).off + 2, none⟩ = some (.string xs[i].f1.f1) ∧ w.cell? ⟨(ad.add (i * 5)).block, (ad.add (i * 5)).off + 3, none⟩ = some (.slice A3 xs[i].f1.f2.length c3) ∧ w.cell? ⟨(ad.add (i * 5)).block, (ad.add (i * 5)).off + 4, none⟩ = some (.slice A4 xs[i].f1.f3.length c4) ∧ xs[i].f1.f2.length ≤ c3 ∧ k49.C w A3 xs[i].f1.f2.length xs[i].f1.f2 ∧ xs[i].f1.f3.length ≤ c4 ∧ k49.C w A4 xs[i].f1.f3.length xs[i].f1.f3 := by
  obtain ⟨ad, c, e, _, hK, hc0⟩ := Kd.C_get h z32 (i : Int) (by omega) (by omega)
  rw [Int.toNat_natCast] at hK hc0
  rw [show xs.getD i z32 = xs[i] by simp [hi]] at hK
  have hc : ∀ j u, c[j]? = some u → w.cell? (ad.add (i * 5 + j)) = some u := hc0
  obtain ⟨A3, c3, A4, c4, rfl, l3, g3, l4, g4⟩ := k32_open hK
  exact ⟨ad, A3, c3, A4, c4, e, hc 0 _ rfl, by rw [← add_field _ _ 1 (by omega)]; exact hc 1 _ rfl, by rw [← add_field _ _ 2 (by omega)]; exact hc 2 _ rfl, by rw [← add_field _ _ 3 (by omega)]; exact hc 3 _ rfl, by rw [← add_field _ _ 4 (by omega)]; exact hc 4 _ rfl, l3, g3, l4, g4⟩
inductive G32 : S32 → Prop
  | mk {x : S32} (h0 : (Lit.int .i64 x.f0).wf = true) (h1 : G30 x.f1) : G32 x
theorem opens_k32 (n : Nat) : Opens n Try.prog 32 k32 G32 := by
  refine Opens.of (opens_struct' (k := (Kd.pair (Kd.int .i64) k30)) id id (fun _ => rfl) Try.underlying32 (by kernel_rfl) (fun _ _ => (OpensF.cons rfl (by kernel_rfl) (opens_int Try.underlying3) (OpensF.last rfl (by kernel_rfl) (opens_k30 _))))) (fun v => (⟨v.1, v.2⟩ : S32)) (fun _ _ _ h => h) ?_
  rintro ⟨v0, v1⟩ ⟨g0, g1⟩
  exact .mk g0 g1
end Go.Proofs.Ythbcekjiljkchaa.XM
namespace Go.Proofs.Ythbcekjiljkchaa.XM
open Go.RowKit Go.Conc Go.Proofs.YthbcekjiljkchaaW.PrintWords Go.Proofs.YthbcekjiljkchaaW.PrintLast Go.Proofs.YthbcekjiljkchaaW.PrintMore Go.Proofs.Ythbcekjiljkchaa.Comm
set_option linter.unusedVariables false
set_option linter.unusedSimpArgs false
theorem sameMails_ev : ∀ l : List S30, (∀ x ∈ l, OkM x) → ∃ K, ∀ k, K ≤ k → ∀ x, x ∈ l → switchyardref13_SameMail.f k x.f0 x.f1 x.f2 x.f3 x.f0 x.f1 x.f2 x.f3 = some true
  | [], _ => ⟨0, fun k _ x hx => by cases hx⟩
  | y :: l, h => by
    obtain ⟨k1, h1⟩ := sameMail_ev y (h y List.mem_cons_self)
    obtain ⟨k2, h2⟩ := sameMails_ev l (fun x hx => h x (List.mem_cons_of_mem _ hx))
    refine ⟨max k1 k2, fun k hk x hx => ?_⟩
    rcases List.mem_cons.1 hx with rfl | hx
    · exact h1 k (by omega)
    · exact h2 k (by omega) x hx
end Go.Proofs.Ythbcekjiljkchaa.XM
namespace Go.Proofs.Ythbcekjiljkchaa.XM
open Go.RowKit Go.Conc Go.Proofs.YthbcekjiljkchaaW.PrintWords Go.Proofs.YthbcekjiljkchaaW.PrintLast Go.Proofs.YthbcekjiljkchaaW.PrintMore Go.Proofs.Ythbcekjiljkchaa.Comm
set_option linter.unusedVariables false
set_option linter.unusedSimpArgs false
theorem Box.drew {w : World} {B : Nat} {ok : Nat → Prop} {g c cap : Nat} {ms : List S30} (h : Box w B ok g c cap ms) : Box w.drew B ok g c cap ms := h.below (below_drew1 (Below.refl _ _))
theorem RB.keep {W0 w w' : World} {B gr : Nat} {L : List S30} {most : Int} (h : RB W0 B w gr L most) (hm : ∀ k : Nat, (∃ cs q, w.heap[k]? = some (Obj.cells cs q (0, 0))) → w'.heap[k]? = w.heap[k]?) : RB W0 B w' gr L most := by
  obtain ⟨v, hgr, hB, hs⟩ := h
  exact ⟨v, (hm gr ⟨_, _, hgr⟩).trans hgr, hB, hs.cells (fun k hk _ => by
    obtain ⟨_, _, cur, hc⟩ := appD_of hs hk
    exact hm k ⟨_, _, hc⟩)⟩
theorem RB.below {W0 w w' : World} {B gr : Nat} {L : List S30} {most : Int} (h : RB W0 B w gr L most) (hb : Below w.heap.size w w') : RB W0 B w' gr L most := h.keep (fun k hk => by
  obtain ⟨cs, q, hc⟩ := hk
  exact hb.block k (blk_lt hc))
theorem but_cells {w w' : World} {c cap : Nat} {buf : Array Value} {s r : Nat} (hc : w.heap[c]? = some (.chan cap buf false s r false)) (hb : But c w w') (k : Nat) (hk : ∃ cs q, w.heap[k]? = some (Obj.cells cs q (0, 0))) : w'.heap[k]? = w.heap[k]? := by
  obtain ⟨cs, q, h⟩ := hk
  exact hb.block k (blk_lt h) (fun e => by rw [e, hc] at h; cases h)
theorem RB.but {W0 w w' : World} {B gr : Nat} {L : List S30} {most : Int} (h : RB W0 B w gr L most) {B' : Nat} {ok : Nat → Prop} {g c cap : Nat} {ms : List S30} (hx : Box w B' ok g c cap ms) (hb : But c w w') : RB W0 B w' gr L most := by
  obtain ⟨buf, s, r, hc⟩ := hx.chan
  exact h.keep (but_cells hc hb)
/-- What the document's calls may write. -/
def RefD (w : World) (B gr k : Nat) : Prop := k = gr ∨ (B ≤ k ∧ ∃ cur, w.heap[k]? = some (.cells cur 30 (0, 0)))
theorem Box.ref {w w' : World} {B : Nat} {ok : Nat → Prop} {g c cap : Nat} {ms : List S30} {W0 : World} {B1 gr : Nat} {L : List S30} {most : Int} (h : Box w B ok g c cap ms) (hr : RB W0 B1 w gr L most) (hf : Fr (RefD w B1 gr) w w') : Box w' B ok g c cap ms := by
  obtain ⟨a1, a2, a3, a4⟩ := h.at_
  obtain ⟨buf, s, r, hc⟩ := h.chan
  obtain ⟨v, hgr, _⟩ := hr
  have ht : Box w B (fun k => ok k ∧ ∃ cs q, w.heap[k]? = some (Obj.cells cs q (0, 0)) ∧ q ≠ 30 ∧ q ≠ 41) g c cap ms := by
    obtain ⟨h1, h2, h3, vs, h4, h5⟩ := h
    refine ⟨h1, h2, h3, vs, h4, h5.imp (fun _ _ hh => ?_)⟩
    obtain ⟨v2, v3, e, r2, r3⟩ := hh
    have ty : ∀ k : Nat, (∃ q, q ∈ 49 :: k49.E ∧ ∃ cells, w.heap[k]? = some (Obj.cells cells q (0, 0))) → ∃ cs q, w.heap[k]? = some (Obj.cells cs q (0, 0)) ∧ q ≠ 30 ∧ q ≠ 41 := fun k hk => by
      obtain ⟨q, hq, cs, hcs⟩ := hk
      exact ⟨cs, q, hcs, fun e => absurd hq (by rw [e]; decide), fun e => absurd hq (by rw [e]; decide)⟩
    exact ⟨v2, v3, e, Kd.R_mono (Kd.R_bound r2) (fun k hk => ⟨hk.1, ty k hk.2.2.2⟩), Kd.R_mono (Kd.R_bound r3) (fun k hk => ⟨hk.1, ty k hk.2.2.2⟩)⟩
  have no : ∀ (k : Nat) cs q, w.heap[k]? = some (Obj.cells cs q (0, 0)) → q ≠ 30 → q ≠ 41 → ¬ RefD w B1 gr k := fun k cs q hk h1 h2 hd => by
    rcases hd with e | ⟨_, cur, hcur⟩
    · rw [e, hgr] at hk; injection hk with hk; injection hk with _ hk _; exact h2 hk.symm
    · rw [hcur] at hk; injection hk with hk; injection hk with _ hk _; exact h1 hk.symm
  refine (ht.step (hf.block g a3 (no g _ _ a4 (by decide) (by decide))) (hf.block c (by omega) (fun hd => ?_)) (fun k hk _ hlt => ?_)).wk (fun k hk => hk.1)
  · rcases hd with e | ⟨_, cur, hcur⟩
    · rw [e, hgr] at hc; cases hc
    · rw [hcur] at hc; cases hc
  · obtain ⟨_, cs, q, h1, h2, h3⟩ := hk
    exact hf.block k hlt (no k cs q h1 h2 h3)
theorem SL.reads {W0 : World} {B : Nat} {w : World} {A : Option Addr} {n c : Nat} {L : List S30} (h : SL W0 B w (.slice A n c) L) (hW : Below W0.heap.size W0 w) (hl : L.length ≤ 1000) : Kd.C k30 w A L.length L ∧ L.length ≤ c := by
  obtain ⟨A', c', e, h1, h2, h3, h4⟩ := h
  injection e with e1 _ e3
  subst e1; subst e3
  refine ⟨⟨rfl, by omega, fun h0 => ?_⟩, h1⟩
  cases A with
  | none => have := h3 rfl; omega
  | some ad =>
    obtain ⟨b, off, cur, rfl, h5, h6, h7, h8⟩ := h4 ad rfl
    refine ⟨_, rfl, fun j x hj => ?_⟩
    obtain ⟨cs, hK, hcs⟩ := h8 j x hj
    exact ⟨cs, k30.K_len hK, k30.K_below hW hK, fun t u hu => by
      rw [Addr.add_lit, blk_cell h6]
      exact hcs t u hu⟩
theorem no32 {W0 w : World} {B gr k : Nat} {L : List S30} {most : Int} {cs : Array Value} (h : RB W0 B w gr L most) (hk : w.heap[k]? = some (.cells cs 32 (0, 0))) : ¬ RefD w B gr k := by
  obtain ⟨v, hgr, _⟩ := h
  intro hd
  rcases hd with e | ⟨_, cur, hcur⟩
  · rw [e, hgr] at hk; injection hk with hk; injection hk with _ hk _; exact absurd hk (by decide)
  · rw [hcur] at hk; injection hk with hk; injection hk with _ hk _; exact absurd hk (by decide)
theorem no30 {W0 w : World} {B gr k : Nat} {L : List S30} {most : Int} {cs : Array Value} (h : RB W0 B w gr L most) (hk : w.heap[k]? = some (.cells cs 30 (0, 0))) : ¬ k = gr := by
  obtain ⟨v, hgr, _⟩ := h
  intro e
  rw [e, hgr] at hk; injection hk with hk; injection hk with _ hk _; exact absurd hk (by decide)
theorem refD_ge {W0 w : World} {B gr : Nat} {L : List S30} {most : Int} (h : RB W0 B w gr L most) : ∀ k, RefD w B gr k → B ≤ k := by
  obtain ⟨v, hgr, hB, _⟩ := h
  intro k hd
  rcases hd with e | ⟨hk, _⟩
  · rw [e]; exact hB
  · exact hk
theorem R_ref {W0 w w' : World} {B gr b : Nat} {L : List S30} {most : Int} {ok : Nat → Prop} {v : Value} {xs : List S49} (h : RB W0 B w gr L most) (hr : Kd.R k49 49 w b ok v xs) (hf : Fr (fun k => k = gr) w w') : Kd.R k49 49 w' b ok v xs := by
  obtain ⟨u, hgr, _⟩ := h
  refine Kd.R_mono (Kd.R_move (Kd.R_bound hr) (fun k hk => ?_)) (fun _ hk => hk.1)
  obtain ⟨_, _, hlt, q, hq, cs, hcs⟩ := hk
  refine hf.block k hlt (fun e => ?_)
  rw [e, hgr] at hcs
  injection hcs with hcs
  injection hcs with _ hcs _
  exact absurd hq (by rw [← hcs]; decide)
section
variable {ops : Array Oper} {rest : List Oper} {o : Oper} {a : Act} {Q : Exit → Act → World → Prop} {W : World}
/-- A call is written over a whole block. -/
theorem store32 {p : Tmp} {v : Operand} {g : Nat} {cur : Array Value} {u : Value} {seg : List Value} (ho : o.op = .store 32 (.tmp p) v) (hgd : o.guard = none) (hN : o.dst = none) (hp : a.eval (.tmp p) = .pointer (some ⟨g, 0, none⟩)) (hv : a.eval v = u) (hu : u.cells.toList = seg) (h4 : seg.length = 5) (h1 : ∀ q ∈ seg, q.oneCell' = true) (hh : W.heap[g]? = some (.cells cur 32 (0, 0))) (hc : cur.size = 5)
    (h : ∀ w', Only g W w' → w'.heap[g]? = some (.cells seg.toArray 32 (0, 0)) → wpList Try.prog ops Q rest a w') : wpList Try.prog ops Q (o :: rest) a W := by
  have ht : (Try.prog.info? 32).map (·.size) = some seg.length := by rw [h4]; kernel_rfl
  have hrun := run_store_run (P := Try.prog) (g := g) (o := 0) 32 u seg hh hu ht (by omega) h1
  obtain ⟨s1, s2, s3, s4⟩ := setCells_same g seg 0 W
  obtain ⟨cur', r1, r2, r3⟩ := setCells_row seg 0 W cur hh (by omega)
  have hcur : cur' = seg.toArray := by
    apply Array.toList_inj.1
    rw [r3, List.take_zero, List.nil_append, List.drop_eq_nil_of_le (by rw [Array.length_toList]; omega), List.append_nil]
  refine wpList_plain hgd fun K hK => ?_
  unfold Oper.wp execOp
  simp only [ho, hp, hv, Sem.run_bind, Sem.run_pure, Result.andThen_ok, hrun]
  show K (a.put o.dst undef) _
  rw [hN]
  exact hK a _ (h _ ⟨s1, s2, s3, s4, fun k hk => setCells_far seg 0 k hk⟩ (hcur ▸ r1))
end
end Go.Proofs.Ythbcekjiljkchaa.XM
namespace Go.Proofs.Ythbcekjiljkchaa.XM
open Go.RowKit Go.Conc Go.Proofs.YthbcekjiljkchaaW.PrintWords Go.Proofs.YthbcekjiljkchaaW.PrintLast Go.Proofs.YthbcekjiljkchaaW.PrintMore Go.Proofs.Ythbcekjiljkchaa.Comm
set_option linter.unusedVariables false
set_option linter.unusedSimpArgs false
def mailPlays.T24 : Bool × List (List Nat × List Nat) := (true, [([], []), ([0], [0]), ([], []), ([2], [2]), ([3], [3]), ([4], [4]), ([5], [5]), ([1, 6], [1, 6]), ([7, 1], [7]), ([8], [8]), ([9, 8, 8], [8, 9]), ([8], [8]), ([11, 8], [8, 11]), ([12, 8], [8, 12]), ([13, 8], [8, 13]), ([8], [8]), ([15, 8], [8, 15]), ([16, 8], [8, 16]), ([17, 8], [8, 17]), ([18, 8], [8, 18]), ([14, 19, 8], [8, 14, 19]), ([10, 20, 8], [8, 10, 20]), ([8, 21], [8, 21])])
def mailPlays.B24 : List Nat := [0, 1, 0, 4, 12, 28, 60, 127, 255, 511, 1023, 511, 2559, 6655, 14847, 511, 33279, 98815, 229887, 492031, 1047039, 2097151, 4194303]
theorem mailPlays.tab24 : rtab .any (opsOf Try.f3 24) = mailPlays.T24 := by kernel_rfl
theorem mailPlays.bits24 : waitsOk mailPlays.T24.2 mailPlays.B24 = true := by kernel_rfl
def mailPlays.T12 : Bool × List (List Nat × List Nat) := (true, [([], []), ([], []), ([1], [1]), ([0, 2], [0, 2]), ([], []), ([], []), ([5], [5]), ([4, 6, 3], [4, 6]), ([3, 7], [3, 7])])
def mailPlays.B12 : List Nat := [0, 0, 2, 7, 0, 0, 32, 127, 255]
theorem mailPlays.tab12 : rtab .any (opsOf Try.f3 12) = mailPlays.T12 := by kernel_rfl
theorem mailPlays.bits12 : waitsOk mailPlays.T12.2 mailPlays.B12 = true := by kernel_rfl
def mailPlays.T22 : Bool × List (List Nat × List Nat) := (true, [([], []), ([0], [0]), ([], []), ([2], [2]), ([3], [3]), ([4], [4]), ([1, 5, 1], [1, 5]), ([6], [6])])
def mailPlays.B22 : List Nat := [0, 1, 0, 4, 12, 28, 63, 127]
theorem mailPlays.tab22 : rtab .any (opsOf Try.f3 22) = mailPlays.T22 := by kernel_rfl
theorem mailPlays.bits22 : waitsOk mailPlays.T22.2 mailPlays.B22 = true := by kernel_rfl
def mailPlays.T27 : Bool × List (List Nat × List Nat) := (true, [([], []), ([0, 0], [0]), ([1], [1]), ([2, 1, 1], [1, 2]), ([1], [1]), ([4, 1], [1, 4]), ([5, 1], [1, 5]), ([6, 1], [1, 6]), ([3, 7, 3, 1], [1, 3, 7]), ([1, 8], [1, 8]), ([9, 8, 0, 1, 2, 3, 4, 5, 6, 7, 8, 9], [9])])
def mailPlays.B27 : List Nat := [0, 1, 3, 7, 3, 19, 51, 115, 255, 511, 1023]
theorem mailPlays.tab27 : rtab .any (opsOf Try.f3 27) = mailPlays.T27 := by kernel_rfl
theorem mailPlays.bits27 : waitsOk mailPlays.T27.2 mailPlays.B27 = true := by kernel_rfl
theorem offered_ok {cap : Nat} {L : List S30} {m : S30} (h : ∀ x, x ∈ L → OkM x) (hm : OkM m) : ∀ x, x ∈ offered cap L m → OkM x := by
  intro x hx
  unfold offered at hx
  split at hx
  · rcases List.mem_append.1 hx with hx | hx
    · exact h x hx
    · rw [List.mem_singleton.1 hx]; exact hm
  · exact h x hx
theorem offered_len (cap : Nat) (L : List S30) (m : S30) : (offered cap L m).length ≤ L.length + 1 := by
  unfold offered
  split
  · rw [List.length_append, List.length_singleton]; exact Nat.le_refl _
  · omega
theorem sameMail_zero : OkM z30 := ⟨⟨Nat.zero_le _, fun v hv => by cases hv⟩, ⟨Nat.zero_le _, fun v hv => by cases hv⟩⟩
theorem lists_ev (L : List S30) (h : ∀ x, x ∈ L → OkM x) : ∃ k, (∀ m, m ∈ L → mail_twin.f k m.f0 m.f1 m.f2 m.f3 = some (m.f0, m.f1, m.f2, m.f3)) ∧ (L.length ≤ 4611686018427387904 → switchyardref13_SameBox.f k L L = some true) ∧ (∀ x, x ∈ L → switchyardref13_SameMail.f k x.f0 x.f1 x.f2 x.f3 x.f0 x.f1 x.f2 x.f3 = some true) ∧ switchyardref13_SameMail.f k 0 ⟨#[]⟩ [] [] 0 ⟨#[]⟩ [] [] = some true := by
  obtain ⟨k1, h1⟩ := twins_ev L h
  obtain ⟨k3, h3⟩ := sameMails_ev L h
  obtain ⟨k4, h4⟩ := sameMail_ev z30 sameMail_zero
  by_cases hl : L.length ≤ 4611686018427387904
  · obtain ⟨k2, h2⟩ := sameBox_ev L hl h
    exact ⟨max (max k1 k2) (max k3 k4), h1 _ (by omega), fun _ => h2 _ (by omega), h3 _ (by omega), h4 _ (by omega)⟩
  · exact ⟨max k1 (max k3 k4), h1 _ (by omega), fun hh => absurd hh hl, h3 _ (by omega), h4 _ (by omega)⟩
set_option maxRecDepth 100000 in
set_option maxHeartbeats 8000000 in
theorem mailPlays_walk (a0 : Int) (A1 : Option Addr) (c1 : Nat) (l1 : (List S32)) (W : World) (hG0 : (Lit.int .i64 a0).wf = true) (hC1 : Kd.C k32 W A1 l1.length l1) (hc1 : l1.length ≤ c1) (hG1 : (l1.length * Try.prog.bytesOf 32 ≤ 140737488351232 ∧ l1.length ≤ maxLen ∧ ∀ y ∈ l1, G32 y)) :
    Calls Try.prog 3 #[.int .i64 a0, .slice A1 l1.length c1] W fun e w' => e = .returned (.bool true) ∧ Below W.heap.size W w' := by
  have HG := Aside0.mk hG1.2.2
  have HC := Aside0.mk hC1
  clear hG0 hC1 hG1 hc1
  by_cases h60 : (60 : Int) < (l1.length : Int)
  · have b1 : decide ((60 : Int) < (l1.length : Int)) = true := decide_eq_true h60
    have b2 : decide ((l1.length : Int) > 60) = true := decide_eq_true h60
    have HB := Aside0.mk (Below.refl W.heap.size W)
    go_enter Try.func3, Try.ntmps3
    go_wp2_with (first
      | (go_at_call 7; refine calls_of_args (args' := #[]) (by first | rfl) ?_; refine (awake_calls _).mono ?_; rintro e wn ⟨rfl, hb⟩; have n0_ := Aside0.mk (below_step HB.out hb); clear HB hb; have HB := n0_; clear n0_))
    go_ret
    exact ⟨rfl, HB.out⟩
  · have b1 : decide ((60 : Int) < (l1.length : Int)) = false := decide_eq_false h60
    have b2 : decide ((l1.length : Int) > 60) = false := decide_eq_false h60
    go_enter Try.func3, Try.ntmps3
    go_wp2_with (first
      | (go_at_call 7; refine calls_of_args (args' := #[]) (by first | rfl) ?_; refine (awake_calls _).mono ?_; rintro e wn ⟨rfl, hb⟩; have HB := Aside0.mk hb; clear hb)
      | (go_at_call 8; refine calls_of_args (args' := #[.int .i64 a0]) (by first | rfl) ?_; refine (new_box _ a0).mono ?_; rintro e w1 ⟨g, c, rfl, hX, hb⟩; have HX := Aside0.mk hX; have HBN := Aside0.mk hb; clear hX hb)
      | (go_at_call 9; refine calls_of_args (args' := #[.int .i64 a0]) (by first | rfl) ?_; refine (ref_new _ a0).mono ?_; rintro e w2 ⟨gr, rfl, hgr, hge, hb⟩; have HGR0 := Aside0.mk hgr; have HGE := Aside0.mk hge; have HX2 := Aside0.mk (HX.out.below hb); have HBN2 := Aside0.mk (below_step HBN.out hb); clear hgr hge hb HX))
    obtain ⟨cap, hcap⟩ : ∃ cap, cap = capOf a0 := ⟨_, rfl⟩
    rw [← hcap] at HGR0 HX2
    clear hcap
    have HB0 := Aside0.mk (Nat.le_refl wn.heap.size)
    have HSZ := Aside0.mk HBN2.out.size
    have HBL := Aside0.mk HB.out.size
    have HRB : Aside0 (RB W W.heap.size w2 gr [] (cap : Int)) := ⟨⟨_, HGR0.out, Nat.le_trans (Nat.le_trans HBL.out HBN.out.size) HGE.out, none, 0, rfl, Nat.le_refl _, by omega, fun _ => rfl, fun ad e => by cases e⟩⟩
    have HBB := Aside0.mk (below_step HB.out HBN2.out)
    clear HB HBN HBN2 HGR0 HGE
    have HB := HBB
    clear HBB
    have HX := HX2
    clear HX2
    obtain ⟨B0, hB0⟩ : ∃ B0, B0 = wn.heap.size := ⟨_, rfl⟩
    rw [← hB0] at HX HSZ HBL HB0
    clear hB0
    go_loopg [25] (l1.length + 1) (fun kq v25 w' => ∃ (i : Nat) (L : List S30) (S : Nat → Prop), v25 = .int .i64 (i : Int) ∧ Aside0 (i + kq = l1.length + 1) ∧ Aside0 (i ≤ l1.length) ∧ Aside0 (Box w' B0 S g c cap L) ∧ Aside0 (RB W W.heap.size w' gr L (cap : Int)) ∧ Aside0 (Below W.heap.size W w') ∧ Aside0 (∀ x, x ∈ L → OkM x) ∧ Aside0 (L.length ≤ i) ∧ Aside0 (B0 ≤ w'.heap.size))
    case atStart => exact ⟨0, [], _, rfl, ⟨by omega⟩, ⟨by omega⟩, HX, HRB, HB, ⟨fun x hx => by cases hx⟩, ⟨Nat.le_refl _⟩, HSZ⟩
    case round =>
      clear HX HRB HB HSZ HB0
      have HB0 := Aside0.mk (Nat.le_refl B0)
      obtain ⟨i, L, S, rfl, HK, HI, HX, HRB, HB, HOK, HLI, HSZ⟩ := hrel
      obtain ⟨kl, hkl⟩ := lists_ev L HOK.out
      obtain ⟨HTL0, HSB0, HSM0, HZ0⟩ := hkl
      have HTL := Aside0.mk HTL0
      have HSB := Aside0.mk (HSB0 (by have := HLI.out; have := HI.out; omega))
      have HSM := Aside0.mk HSM0
      have HSZ0 := Aside0.mk HZ0
      clear HTL0 HSB0 HSM0 HZ0
      by_cases hi : i < l1.length
      · have cb : decide ((i : Int) < (l1.length : Int)) = true := decide_eq_true (by omega)
        have p1 : 0 ≤ (i : Int) := by omega
        have p2 : (i : Int) < (l1.length : Int) := by omega
        obtain ⟨ad, A2, c2, A3, c3, e, x0, x1, x2, x3, x4, l2, hC2, l3, hC3⟩ := at_T32 HC.out i hi hi
        cases e
        replace x0 := (HB.out.cell (World.block_lt_of_cell? W _ x0)).trans x0
        replace x1 := (HB.out.cell (World.block_lt_of_cell? W _ x1)).trans x1
        replace x2 := (HB.out.cell (World.block_lt_of_cell? W _ x2)).trans x2
        replace x3 := (HB.out.cell (World.block_lt_of_cell? W _ x3)).trans x3
        replace x4 := (HB.out.cell (World.block_lt_of_cell? W _ x4)).trans x4
        have L2 := Aside0.mk l2
        have L3 := Aside0.mk l3
        have C2 := Aside0.mk hC2
        have C3 := Aside0.mk hC3
        clear l2 l3 hC2 hC3
        by_cases hs : shortM l1[i].f1 = true
        · have hok : OkM l1[i].f1 := by obtain ⟨h0, h1⟩ := HG.out _ (List.getElem_mem hi); exact okM_of h1 hs
          have HOM := Aside0.mk hok
          obtain ⟨kf, hkf⟩ := mtwin_ev _ hok
          have HTW := Aside0.mk (hkf kf (Nat.le_refl _))
          clear hkf hok
          go_wp2_with (first
            | ((with_reducible refine gate_store (t := 32) (p := 8) (v := .tmp 28) rfl ?_); refine store32 (seg := [.int .i64 l1[i].f0, .int .i64 l1[i].f1.f0, .string l1[i].f1.f1, .slice A2 l1[i].f1.f2.length c2, .slice A3 l1[i].f1.f3.length c3]) rfl rfl rfl rfl rfl rfl rfl (by simp [Value.oneCell']) (heap_alloc_new wr _) rfl ?_; intro wn ho3 hn3; have hb := only_new ho3; have y0 := (blk_cell hn3 0).trans rfl; have y1 := (blk_cell hn3 1).trans rfl; have y2 := (blk_cell hn3 2).trans rfl; have y3 := (blk_cell hn3 3).trans rfl; have y4 := (blk_cell hn3 4).trans rfl; simp only [List.getElem?_toArray, List.getElem?_cons_zero, List.getElem?_cons_succ] at y0 y1 y2 y3 y4; have BKA := Aside0.mk hn3; have n0_ := Aside0.mk (HX.out.below hb); have n1_ := Aside0.mk (HRB.out.below hb); have n2_ := Aside0.mk (Nat.le_trans HSZ.out hb.size); have n3_ := Aside0.mk (below_step HB.out hb); clear HX HRB HSZ HB hb; have HX := n0_; have HRB := n1_; have HSZ := n2_; have HB := n3_; clear n0_ n1_ n2_ n3_; clear ho3 hn3)
            | (go_at_call 10; refine calls_of_args (args' := #[.agg #[.int .i64 l1[i].f1.f0, .string l1[i].f1.f1, .slice A2 l1[i].f1.f2.length c2, .slice A3 l1[i].f1.f3.length c3]]) (by first | rfl) ?_; refine (switchyardlaw18_short.calls (l1[i].f1).f0 (l1[i].f1).f1 A2 c2 (l1[i].f1).f2 A3 c3 (l1[i].f1).f3 _ _ (Kd.C_below C2.out HB.out) L2.out (Kd.C_below C3.out HB.out) L3.out (short_is l1[i].f1)).mono ?_; rintro e wn ⟨rfl, hb⟩; clear y0 y1 y2 y3 y4; have n0_ := Aside0.mk (HX.out.below hb); have n1_ := Aside0.mk (HRB.out.below hb); have n2_ := Aside0.mk (Nat.le_trans HSZ.out hb.size); have n3_ := Aside0.mk (below_step HB.out hb); have n4_ := Aside0.mk (blk_below BKA.out hb); clear HX HRB HSZ HB BKA hb; have HX := n0_; have HRB := n1_; have HSZ := n2_; have HB := n3_; have BKA := n4_; clear n0_ n1_ n2_ n3_ n4_; have y0 := (blk_cell BKA.out 0).trans rfl; simp only [List.getElem?_toArray, List.getElem?_cons_zero, List.getElem?_cons_succ] at y0))
          · cases L with
            | nil =>
              go_wp2_with (first
                | (go_at_call 11; refine calls_of_args (args' := #[.pointer (some ⟨g, 0, none⟩)]) (by first | rfl) ?_; refine (take_none _ B0 S g c cap HX.out (Nat.le_trans HB0.out HSZ.out)).mono ?_; rintro e wn ⟨rfl, hX, hb⟩; have n0_ := Aside0.mk (HRB.out.but HX.out hb); have n1_ := Aside0.mk (HB.out.trans (hb.below (Nat.le_trans HBL.out HX.out.1) HB.out.size)); have n2_ := Aside0.mk (Nat.le_trans HSZ.out hb.size); clear HRB HB HSZ; have HRB := n0_; have HB := n1_; have HSZ := n2_; clear n0_ n1_ n2_; have HX' := Aside0.mk hX; clear HX hX hb; have HX := HX'; clear HX')
                | ((with_reducible refine gate_store (t := 30) (p := 9) (v := .tmp 52) rfl ?_); refine store30 (seg := [.int .i64 0, .string ⟨#[]⟩, .slice none 0 0, .slice none 0 0]) rfl rfl rfl rfl rfl rfl rfl (by simp [Value.oneCell']) (heap_alloc_new _ _) rfl ?_; intro wn ho3 hn3; have hb := only_new ho3; have BK9 := Aside0.mk hn3; have n0_ := Aside0.mk (HX.out.below hb); have n1_ := Aside0.mk (HRB.out.below hb); have n2_ := Aside0.mk (Nat.le_trans HSZ.out hb.size); have n3_ := Aside0.mk (below_step HB.out hb); clear HX HRB HSZ HB hb; have HX := n0_; have HRB := n1_; have HSZ := n2_; have HB := n3_; clear n0_ n1_ n2_ n3_; clear ho3 hn3)
                | (go_at_call 12; refine calls_of_args (args' := #[.pointer (some ⟨gr, 0, none⟩)]) (by first | rfl) ?_; refine (ref_take_none W _ W.heap.size gr (cap : Int) HRB.out).mono ?_; rintro e wn ⟨rfl, hb⟩; have n0_ := Aside0.mk (blk_below BK9.out hb); clear BK9; have BK9 := n0_; clear n0_; have n0_ := Aside0.mk (HX.out.below hb); have n1_ := Aside0.mk (HRB.out.below hb); have n2_ := Aside0.mk (Nat.le_trans HSZ.out hb.size); have n3_ := Aside0.mk (below_step HB.out hb); clear HX HRB HSZ HB hb; have HX := n0_; have HRB := n1_; have HSZ := n2_; have HB := n3_; clear n0_ n1_ n2_ n3_)
                | ((with_reducible refine gate_store (t := 30) (p := 11) (v := .tmp 57) rfl ?_); refine store30 (seg := [.int .i64 0, .string ⟨#[]⟩, .slice none 0 0, .slice none 0 0]) rfl rfl rfl rfl rfl rfl rfl (by simp [Value.oneCell']) (heap_alloc_new _ _) rfl ?_; intro wn ho3 hn3; have hb := only_new ho3; have y0 := (blk_cell hn3 0).trans rfl; have y1 := (blk_cell hn3 1).trans rfl; have y2 := (blk_cell hn3 2).trans rfl; have y3 := (blk_cell hn3 3).trans rfl; simp only [List.getElem?_toArray, List.getElem?_cons_zero, List.getElem?_cons_succ] at y0 y1 y2 y3; have hbk := blk_below BK9.out hb; have z0 := (blk_cell hbk 0).trans rfl; have z1 := (blk_cell hbk 1).trans rfl; have z2 := (blk_cell hbk 2).trans rfl; have z3 := (blk_cell hbk 3).trans rfl; simp only [List.getElem?_toArray, List.getElem?_cons_zero, List.getElem?_cons_succ] at z0 z1 z2 z3; clear hbk BK9; have n0_ := Aside0.mk (HX.out.below hb); have n1_ := Aside0.mk (HRB.out.below hb); have n2_ := Aside0.mk (Nat.le_trans HSZ.out hb.size); have n3_ := Aside0.mk (below_step HB.out hb); clear HX HRB HSZ HB hb; have HX := n0_; have HRB := n1_; have HSZ := n2_; have HB := n3_; clear n0_ n1_ n2_ n3_; clear ho3 hn3)
                | (go_at_call 13; refine calls_of_args (args' := #[.agg #[.int .i64 0, .string ⟨#[]⟩, .slice none 0 0, .slice none 0 0], .agg #[.int .i64 0, .string ⟨#[]⟩, .slice none 0 0, .slice none 0 0]]) (by first | rfl) ?_; refine (switchyardref13_SameMail.calls kl 0 ⟨#[]⟩ none 0 ([] : List S49) none 0 ([] : List S49) 0 ⟨#[]⟩ none 0 ([] : List S49) none 0 ([] : List S49) true _ (Kd.C_nil _ _) (Nat.le_refl _) (Kd.C_nil _ _) (Nat.le_refl _) (Kd.C_nil _ _) (Nat.le_refl _) (Kd.C_nil _ _) (Nat.le_refl _) HSZ0.out).mono ?_; rintro e wn ⟨rfl, hb⟩; have n0_ := Aside0.mk (HX.out.below hb); have n1_ := Aside0.mk (HRB.out.below hb); have n2_ := Aside0.mk (Nat.le_trans HSZ.out hb.size); have n3_ := Aside0.mk (below_step HB.out hb); clear HX HRB HSZ HB hb; have HX := n0_; have HRB := n1_; have HSZ := n2_; have HB := n3_; clear n0_ n1_ n2_ n3_))
              obtain ⟨L', hL'⟩ : ∃ L' : List S30, L' = [] := ⟨_, rfl⟩
              rw [← hL'] at HX HRB
              have HOK' := Aside0.mk (show ∀ x, x ∈ L' → OkM x by rw [hL']; exact HOK.out)
              have HLI' := Aside0.mk (show L'.length ≤ i + 1 by rw [hL']; exact Nat.zero_le _)
              clear hL'
              obtain ⟨vr, hgr, hBg, hsl⟩ := HRB.out
              have hsl0 := hsl
              obtain ⟨A, cr, rfl, _⟩ := hsl0
              have HGR := Aside0.mk hgr
              have HSL := Aside0.mk hsl
              clear hgr hsl HRB
              have hsub : wrap64 ((cap : Int) - (L'.length : Int)) = ((cap - L'.length : Nat) : Int) := by have := HX.out.2.1; have := HX.out.2.2.1; unfold wrap64; omega
              refine start_ (n := 23) (S := fun w' => w'.cell? ⟨gr, 0, none⟩ = some (.slice A L'.length cr) ∧ w'.cell? ⟨gr, 1, none⟩ = some (.int .i64 (cap : Int))) (ds := []) #[false, false, false, false, false, false, false, false, false, false, false, false, false, false, false, false, false, false, false, false, false, false, false] (by kernel_rfl) rfl rfl ⟨(blk_cell HGR.out 0).trans rfl, (blk_cell HGR.out 1).trans rfl⟩ (fun hHeld => ?_)
              refine with_tabW mailPlays.tab24 mailPlays.bits24 (fun HT_ HW_ => ?_)
              have n0_ := Aside0.mk (HX.out.drew)
              have n1_ := Aside0.mk (blk_drew HGR.out)
              have n2_ := Aside0.mk (SL.drew HSL.out)
              have n3_ := Aside0.mk (below_drew1 HB.out)
              have n4_ := Aside0.mk ((show B0 ≤ wn.drew.heap.size from HSZ.out))
              clear HX HGR HSL HB HSZ
              have HX := n0_
              have HGR := n1_
              have HSL := n2_
              have HB := n3_
              have HSZ := n4_
              clear n0_ n1_ n2_ n3_ n4_
              generalize wn.drew = wm at HX HGR HSL HB HSZ hHeld ⊢
              refine pure_ (i := 0) (N := (some 79)) (v := ?_) (a' := ?_) #[true, false, false, false, false, false, false, false, false, false, false, false, false, false, false, false, false, false, false, false, false, false, false] rfl rfl (any_of HT_.out (by kernel_rfl)) (fun _ _ _ h => h) (Or.inl ⟨by rfl, ?_⟩) ?_ ?_
              rotate_left
              · intro w'
                go_simp
                with_reducible rfl
              rotate_left
              · simp only [Act.put, List.setIfInBounds_toArray, List.set_cons_zero, List.set_cons_succ, i64_w, i32_w]
                rfl
              refine pure_ (i := 2) (N := (some 81)) (v := ?_) (a' := ?_) #[true, false, true, false, false, false, false, false, false, false, false, false, false, false, false, false, false, false, false, false, false, false, false] rfl rfl (any_of HT_.out (by kernel_rfl)) (fun _ _ _ h => h) (Or.inl ⟨by rfl, ?_⟩) ?_ ?_
              rotate_left
              · intro w'
                go_simp
                with_reducible rfl
              rotate_left
              · simp only [Act.put, List.setIfInBounds_toArray, List.set_cons_zero, List.set_cons_succ, i64_w, i32_w]
                rfl
              refine pure_ (i := 3) (N := (some 82)) (v := ?_) (a' := ?_) #[true, false, true, true, false, false, false, false, false, false, false, false, false, false, false, false, false, false, false, false, false, false, false] rfl rfl (any_of HT_.out (by kernel_rfl)) (fun _ _ _ h => h) (Or.inl ⟨by rfl, ?_⟩) ?_ ?_
              rotate_left
              · intro w'
                go_simp
                with_reducible rfl
              rotate_left
              · simp only [Act.put, List.setIfInBounds_toArray, List.set_cons_zero, List.set_cons_succ, i64_w, i32_w]
                rfl
              refine pure_ (i := 4) (N := (some 83)) (v := ?_) (a' := ?_) #[true, false, true, true, true, false, false, false, false, false, false, false, false, false, false, false, false, false, false, false, false, false, false] rfl rfl (any_of HT_.out (by kernel_rfl)) (fun _ _ _ h => h) (Or.inl ⟨by rfl, ?_⟩) ?_ ?_
              rotate_left
              · intro w'
                go_simp
                with_reducible rfl
              rotate_left
              · simp only [Act.put, List.setIfInBounds_toArray, List.set_cons_zero, List.set_cons_succ, i64_w, i32_w]
                rfl
              refine take_ (i := 5) (N := (some 84)) (v := ?_) (a' := ?_) #[true, false, true, true, true, true, false, false, false, false, false, false, false, false, false, false, false, false, false, false, false, false, false] rfl rfl (take_ofW HT_.out HW_.out (by kernel_rfl)) (fun _ _ _ h => h) (Or.inl ⟨by rfl, ?_⟩) hHeld ?_ ?_
              rotate_left
              · rintro w' ⟨s0, s1⟩
                go_simp
                with_reducible rfl
              rotate_left
              · simp only [Act.put, List.setIfInBounds_toArray, List.set_cons_zero, List.set_cons_succ, i64_w, i32_w]
                rfl
              refine take_ (i := 6) (N := (some 85)) (v := ?_) (a' := ?_) #[true, false, true, true, true, true, true, false, false, false, false, false, false, false, false, false, false, false, false, false, false, false, false] rfl rfl (take_ofW HT_.out HW_.out (by kernel_rfl)) (fun _ _ _ h => h) (Or.inl ⟨by rfl, ?_⟩) hHeld ?_ ?_
              rotate_left
              · rintro w' ⟨s0, s1⟩
                go_simp
                with_reducible rfl
              rotate_left
              · simp only [Act.put, List.setIfInBounds_toArray, List.set_cons_zero, List.set_cons_succ, i64_w, i32_w]
                rfl
              refine one_ (i := 1) (N := (some 80)) #[true, true, true, true, true, true, true, false, false, false, false, false, false, false, false, false, false, false, false, false, false, false, false] rfl rfl (one_of HT_.out (by kernel_rfl)) (by decide) (fun K hK => ?_)
              refine goes_ Try.func18 (by kernel_rfl) rfl #[.pointer (some ⟨g, 0, none⟩)] (by rfl) rfl rfl (by (try simp only [List.map_toArray, List.map_cons, List.map_nil]); first | done | rfl) ?_
              refine (len_box _ B0 _ g c cap L' HX.out).mono ?_
              rintro e wk ⟨rfl, hb⟩
              refine ⟨_, rfl, ?_⟩
              have n0_ := Aside0.mk (HX.out.below hb)
              have n1_ := Aside0.mk (Nat.le_trans HSZ.out hb.size)
              have n2_ := Aside0.mk (blk_below HGR.out hb)
              have n3_ := Aside0.mk (HSL.out.below hb)
              have n4_ := Aside0.mk (below_step HB.out hb)
              clear HX HSZ HGR HSL HB hb
              have HX := n0_
              have HSZ := n1_
              have HGR := n2_
              have HSL := n3_
              have HB := n4_
              clear n0_ n1_ n2_ n3_ n4_
              refine hK.out _ _ ⟨(blk_cell HGR.out 0).trans rfl, (blk_cell HGR.out 1).trans rfl⟩ (fun hHeld => ?_)
              clear hK K
              refine norm_ (a' := ?_) ?_ ?_
              rotate_left
              · show Act.put _ (some 80) _ = _
                simp only [Act.put, List.setIfInBounds_toArray, List.set_cons_zero, List.set_cons_succ, i64_w, i32_w]
                rfl
              refine pure_ (i := 7) (N := (some 86)) (v := ?_) (a' := ?_) #[true, true, true, true, true, true, true, true, false, false, false, false, false, false, false, false, false, false, false, false, false, false, false] rfl rfl (any_of HT_.out (by kernel_rfl)) (fun _ _ _ h => h) (Or.inl ⟨by rfl, ?_⟩) ?_ ?_
              rotate_left
              · intro w'
                go_simp
                with_reducible rfl
              rotate_left
              · simp only [Act.put, List.setIfInBounds_toArray, List.set_cons_zero, List.set_cons_succ, i64_w, i32_w]
                rfl
              refine pure_ (i := 8) (N := (some 87)) (v := ?_) (a' := ?_) #[true, true, true, true, true, true, true, true, true, false, false, false, false, false, false, false, false, false, false, false, false, false, false] rfl rfl (any_of HT_.out (by kernel_rfl)) (fun _ _ _ h => h) (Or.inl ⟨by rfl, ?_⟩) ?_ ?_
              rotate_left
              · intro w'
                go_simp
                with_reducible rfl
              rotate_left
              · simp only [Act.put, List.setIfInBounds_toArray, List.set_cons_zero, List.set_cons_succ, i64_w, i32_w]
                rfl
              refine pure_ (i := 9) (N := (some 88)) (v := ?_) (a' := ?_) #[true, true, true, true, true, true, true, true, true, true, false, false, false, false, false, false, false, false, false, false, false, false, false] rfl rfl (any_of HT_.out (by kernel_rfl)) (fun _ _ _ h => h) (Or.inl ⟨by rfl, ?_⟩) ?_ ?_
              rotate_left
              · intro w'
                go_simp
                with_reducible rfl
              rotate_left
              · simp only [Act.put, List.setIfInBounds_toArray, List.set_cons_zero, List.set_cons_succ, i64_w, i32_w]
                rfl
              refine pure_ (i := 11) (N := (some 90)) (v := ?_) (a' := ?_) #[true, true, true, true, true, true, true, true, true, true, false, true, false, false, false, false, false, false, false, false, false, false, false] rfl rfl (any_of HT_.out (by kernel_rfl)) (fun _ _ _ h => h) (Or.inl ⟨by rfl, ?_⟩) ?_ ?_
              rotate_left
              · intro w'
                go_simp
                with_reducible rfl
              rotate_left
              · simp only [Act.put, List.setIfInBounds_toArray, List.set_cons_zero, List.set_cons_succ, i64_w, i32_w]
                rfl
              refine pure_ (i := 12) (N := (some 91)) (v := ?_) (a' := ?_) #[true, true, true, true, true, true, true, true, true, true, false, true, true, false, false, false, false, false, false, false, false, false, false] rfl rfl (any_of HT_.out (by kernel_rfl)) (fun _ _ _ h => h) (Or.inl ⟨by rfl, ?_⟩) ?_ ?_
              rotate_left
              · intro w'
                go_simp
                with_reducible rfl
              rotate_left
              · simp only [Act.put, List.setIfInBounds_toArray, List.set_cons_zero, List.set_cons_succ, i64_w, i32_w]
                rfl
              refine pure_ (i := 13) (N := (some 92)) (v := ?_) (a' := ?_) #[true, true, true, true, true, true, true, true, true, true, false, true, true, true, false, false, false, false, false, false, false, false, false] rfl rfl (any_of HT_.out (by kernel_rfl)) (fun _ _ _ h => h) (Or.inl ⟨by rfl, ?_⟩) ?_ ?_
              rotate_left
              · intro w'
                go_simp
                with_reducible rfl
              rotate_left
              · simp only [Act.put, List.setIfInBounds_toArray, List.set_cons_zero, List.set_cons_succ, i64_w, i32_w]
                rfl
              refine take_ (i := 14) (N := (some 93)) (v := ?_) (a' := ?_) #[true, true, true, true, true, true, true, true, true, true, false, true, true, true, true, false, false, false, false, false, false, false, false] rfl rfl (take_ofW HT_.out HW_.out (by kernel_rfl)) (fun _ _ _ h => h) (Or.inl ⟨by rfl, ?_⟩) hHeld ?_ ?_
              rotate_left
              · rintro w' ⟨s0, s1⟩
                go_simp
                with_reducible rfl
              rotate_left
              · simp only [Act.put, List.setIfInBounds_toArray, List.set_cons_zero, List.set_cons_succ, i64_w, i32_w]
                rfl
              refine pure_ (i := 15) (N := (some 94)) (v := ?_) (a' := ?_) #[true, true, true, true, true, true, true, true, true, true, false, true, true, true, true, true, false, false, false, false, false, false, false] rfl rfl (any_of HT_.out (by kernel_rfl)) (fun _ _ _ h => h) (Or.inl ⟨by rfl, ?_⟩) ?_ ?_
              rotate_left
              · intro w'
                go_simp
                with_reducible rfl
              rotate_left
              · simp only [Act.put, List.setIfInBounds_toArray, List.set_cons_zero, List.set_cons_succ, i64_w, i32_w]
                rfl
              refine pure_ (i := 16) (N := (some 95)) (v := ?_) (a' := ?_) #[true, true, true, true, true, true, true, true, true, true, false, true, true, true, true, true, true, false, false, false, false, false, false] rfl rfl (any_of HT_.out (by kernel_rfl)) (fun _ _ _ h => h) (Or.inl ⟨by rfl, ?_⟩) ?_ ?_
              rotate_left
              · intro w'
                go_simp
                with_reducible rfl
              rotate_left
              · simp only [Act.put, List.setIfInBounds_toArray, List.set_cons_zero, List.set_cons_succ, i64_w, i32_w]
                rfl
              refine pure_ (i := 17) (N := (some 96)) (v := ?_) (a' := ?_) #[true, true, true, true, true, true, true, true, true, true, false, true, true, true, true, true, true, true, false, false, false, false, false] rfl rfl (any_of HT_.out (by kernel_rfl)) (fun _ _ _ h => h) (Or.inl ⟨by rfl, ?_⟩) ?_ ?_
              rotate_left
              · intro w'
                go_simp
                with_reducible rfl
              rotate_left
              · simp only [Act.put, List.setIfInBounds_toArray, List.set_cons_zero, List.set_cons_succ, i64_w, i32_w]
                rfl
              refine take_ (i := 18) (N := (some 97)) (v := ?_) (a' := ?_) #[true, true, true, true, true, true, true, true, true, true, false, true, true, true, true, true, true, true, true, false, false, false, false] rfl rfl (take_ofW HT_.out HW_.out (by kernel_rfl)) (fun _ _ _ h => h) (Or.inl ⟨by rfl, ?_⟩) hHeld ?_ ?_
              rotate_left
              · rintro w' ⟨s0, s1⟩
                go_simp
                with_reducible rfl
              rotate_left
              · simp only [Act.put, List.setIfInBounds_toArray, List.set_cons_zero, List.set_cons_succ, i64_w, i32_w]
                rfl
              refine take_ (i := 19) (N := (some 98)) (v := ?_) (a' := ?_) #[true, true, true, true, true, true, true, true, true, true, false, true, true, true, true, true, true, true, true, true, false, false, false] rfl rfl (take_ofW HT_.out HW_.out (by kernel_rfl)) (fun _ _ _ h => h) (Or.inl ⟨by rfl, ?_⟩) hHeld ?_ ?_
              rotate_left
              · rintro w' ⟨s0, s1⟩
                go_simp
                with_reducible rfl
              rotate_left
              · simp only [Act.put, List.setIfInBounds_toArray, List.set_cons_zero, List.set_cons_succ, i64_w, i32_w]
                rfl
              refine pure_ (i := 20) (N := (some 99)) (v := ?_) (a' := ?_) #[true, true, true, true, true, true, true, true, true, true, false, true, true, true, true, true, true, true, true, true, true, false, false] rfl rfl (any_of HT_.out (by kernel_rfl)) (fun _ _ _ h => h) (Or.inl ⟨by rfl, ?_⟩) ?_ ?_
              rotate_left
              · intro w'
                go_simp
                with_reducible rfl
              rotate_left
              · simp only [Act.put, List.setIfInBounds_toArray, List.set_cons_zero, List.set_cons_succ, i64_w, i32_w]
                rfl
              refine one_ (i := 10) (N := (some 89)) #[true, true, true, true, true, true, true, true, true, true, true, true, true, true, true, true, true, true, true, true, true, false, false] rfl rfl (one_of HT_.out (by kernel_rfl)) (by decide) (fun K hK => ?_)
              refine goes_ Try.func19 (by kernel_rfl) rfl #[.pointer (some ⟨g, 0, none⟩)] (by rfl) rfl rfl (by (try simp only [List.map_toArray, List.map_cons, List.map_nil]); first | done | rfl) ?_
              refine (room_box _ B0 _ g c cap L' HX.out).mono ?_
              rintro e wk ⟨rfl, hb⟩
              refine ⟨_, rfl, ?_⟩
              have n0_ := Aside0.mk (HX.out.below hb)
              have n1_ := Aside0.mk (Nat.le_trans HSZ.out hb.size)
              have n2_ := Aside0.mk (blk_below HGR.out hb)
              have n3_ := Aside0.mk (HSL.out.below hb)
              have n4_ := Aside0.mk (below_step HB.out hb)
              clear HX HSZ HGR HSL HB hb
              have HX := n0_
              have HSZ := n1_
              have HGR := n2_
              have HSL := n3_
              have HB := n4_
              clear n0_ n1_ n2_ n3_ n4_
              refine hK.out _ _ ⟨(blk_cell HGR.out 0).trans rfl, (blk_cell HGR.out 1).trans rfl⟩ (fun hHeld => ?_)
              clear hK K
              refine norm_ (a' := ?_) ?_ ?_
              rotate_left
              · show Act.put _ (some 89) _ = _
                simp only [Act.put, List.setIfInBounds_toArray, List.set_cons_zero, List.set_cons_succ, i64_w, i32_w]
                rfl
              refine pure_ (i := 21) (N := (some 100)) (v := ?_) (a' := ?_) #[true, true, true, true, true, true, true, true, true, true, true, true, true, true, true, true, true, true, true, true, true, true, false] rfl rfl (any_of HT_.out (by kernel_rfl)) (fun _ _ _ h => h) (Or.inl ⟨by rfl, ?_⟩) ?_ ?_
              rotate_left
              · intro w'
                go_simp
                with_reducible rfl
              rotate_left
              · simp only [Act.put, List.setIfInBounds_toArray, List.set_cons_zero, List.set_cons_succ, i64_w, i32_w]
                rfl
              refine pure_ (i := 22) (N := (some 101)) (v := ?_) (a' := ?_) #[true, true, true, true, true, true, true, true, true, true, true, true, true, true, true, true, true, true, true, true, true, true, true] rfl rfl (any_of HT_.out (by kernel_rfl)) (fun _ _ _ h => h) (Or.inl ⟨by rfl, ?_⟩) ?_ ?_
              rotate_left
              · intro w'
                go_simp
                with_reducible rfl
              rotate_left
              · simp only [Act.put, List.setIfInBounds_toArray, List.set_cons_zero, List.set_cons_succ, i64_w, i32_w]
                rfl
              refine done_ (done_of HT_.out (by kernel_rfl)) ?_
              go_wp2
              go_roundg (gk - 1)
              case measure => have := HK.out; omega
              case rel => exact ⟨i + 1, L', _, congrArg (Value.int .i64) (Int.natCast_add i 1).symm, ⟨by have := HK.out; omega⟩, ⟨by omega⟩, HX, ⟨⟨_, HGR.out, hBg, HSL.out⟩⟩, HB, HOK', HLI', HSZ⟩
            | cons x L2 =>
              have HSX := Aside0.mk (HSM.out x List.mem_cons_self)
              go_wp2_with (first
                | (go_at_call 11; refine calls_of_args (args' := #[.pointer (some ⟨g, 0, none⟩)]) (by first | rfl) ?_; refine (take_some _ B0 S g c cap x L2 HX.out (Nat.le_trans HB0.out HSZ.out)).mono ?_; rintro e wn ⟨v, rfl, hM, hX, hb⟩; obtain ⟨v2, v3, rfl, r2, r3⟩ := hM; obtain ⟨D2, e2, rfl, m2, _⟩ := Kd.R_reads r2; obtain ⟨D3, e3, rfl, m3, _⟩ := Kd.R_reads r3; have n0_ := Aside0.mk (HRB.out.but HX.out hb); have n1_ := Aside0.mk (HB.out.trans (hb.below (Nat.le_trans HBL.out HX.out.1) HB.out.size)); have n2_ := Aside0.mk (Nat.le_trans HSZ.out hb.size); clear HRB HB HSZ; have HRB := n0_; have HB := n1_; have HSZ := n2_; clear n0_ n1_ n2_; have HX' := Aside0.mk hX; have G2 := Aside0.mk r2; have G3 := Aside0.mk r3; have M2 := Aside0.mk m2; have M3 := Aside0.mk m3; clear HX hX hb r2 r3 m2 m3; have HX := HX'; clear HX')
                | ((with_reducible refine gate_store (t := 30) (p := 9) (v := .tmp 52) rfl ?_); refine store30 (seg := [.int .i64 x.f0, .string x.f1, .slice D2 x.f2.length e2, .slice D3 x.f3.length e3]) rfl rfl rfl rfl rfl rfl rfl (by simp [Value.oneCell']) (heap_alloc_new _ _) rfl ?_; intro wn ho3 hn3; have hb := only_new ho3; have n0_ := Aside0.mk (HX.out.below hb); have n1_ := Aside0.mk (HRB.out.below hb); have n2_ := Aside0.mk (below_step HB.out hb); have n3_ := Aside0.mk (Nat.le_trans HSZ.out hb.size); have n4_ := Aside0.mk (Kd.R_below G2.out hb); have n5_ := Aside0.mk (Kd.R_below G3.out hb); clear HX HRB HB HSZ G2 G3; have HX := n0_; have HRB := n1_; have HB := n2_; have HSZ := n3_; have G2 := n4_; have G3 := n5_; clear n0_ n1_ n2_ n3_ n4_ n5_; have BK9 := Aside0.mk hn3; clear hb; clear ho3 hn3)
                | (go_at_call 12; refine calls_of_args (args' := #[.pointer (some ⟨gr, 0, none⟩)]) (by first | rfl) ?_; refine (ref_take_some W _ W.heap.size gr x L2 (cap : Int) HRB.out).mono ?_; rintro e wn ⟨F2, f2, F3, f3, rfl, n2, hF2, n3, hF3, hR, hf⟩; have n0_ := Aside0.mk (HX.out.ref HRB.out (hf.wk (fun k hk => Or.inl hk))); have n1_ := Aside0.mk (HB.out.trans (hf.to_below (fun k hk => refD_ge HRB.out k (Or.inl hk)) HB.out.size)); have n2_ := Aside0.mk (Nat.le_trans HSZ.out hf.size); have n3_ := Aside0.mk ((hf.block _ (blk_lt BK9.out) (no30 HRB.out BK9.out)).trans BK9.out); have n4_ := Aside0.mk (R_ref HRB.out G2.out hf); have n5_ := Aside0.mk (R_ref HRB.out G3.out hf); clear HX HB HSZ BK9 G2 G3; have HX := n0_; have HB := n1_; have HSZ := n2_; have BK9 := n3_; have G2 := n4_; have G3 := n5_; clear n0_ n1_ n2_ n3_ n4_ n5_; have HRB' := Aside0.mk hR; have N2 := Aside0.mk n2; have N3 := Aside0.mk n3; have K2 := Aside0.mk hF2; have K3 := Aside0.mk hF3; clear HRB hR hf n2 n3 hF2 hF3; have HRB := HRB'; clear HRB')
                | ((with_reducible refine gate_store (t := 30) (p := 11) (v := .tmp 57) rfl ?_); refine store30 (seg := [.int .i64 x.f0, .string x.f1, .slice F2 x.f2.length f2, .slice F3 x.f3.length f3]) rfl rfl rfl rfl rfl rfl rfl (by simp [Value.oneCell']) (heap_alloc_new _ _) rfl ?_; intro wn ho3 hn3; have hb := only_new ho3; have y0 := (blk_cell hn3 0).trans rfl; have y1 := (blk_cell hn3 1).trans rfl; have y2 := (blk_cell hn3 2).trans rfl; have y3 := (blk_cell hn3 3).trans rfl; simp only [List.getElem?_toArray, List.getElem?_cons_zero, List.getElem?_cons_succ] at y0 y1 y2 y3; have hbk := blk_below BK9.out hb; have z0 := (blk_cell hbk 0).trans rfl; have z1 := (blk_cell hbk 1).trans rfl; have z2 := (blk_cell hbk 2).trans rfl; have z3 := (blk_cell hbk 3).trans rfl; simp only [List.getElem?_toArray, List.getElem?_cons_zero, List.getElem?_cons_succ] at z0 z1 z2 z3; have n0_ := Aside0.mk (HX.out.below hb); have n1_ := Aside0.mk (HRB.out.below hb); have n2_ := Aside0.mk (below_step HB.out hb); have n3_ := Aside0.mk (Nat.le_trans HSZ.out hb.size); have n4_ := Aside0.mk (Kd.R_below G2.out hb); have n5_ := Aside0.mk (Kd.R_below G3.out hb); clear HX HRB HB HSZ G2 G3; have HX := n0_; have HRB := n1_; have HB := n2_; have HSZ := n3_; have G2 := n4_; have G3 := n5_; clear n0_ n1_ n2_ n3_ n4_ n5_; clear hb hbk BK9; clear ho3 hn3)
                | (go_at_call 13; refine calls_of_args (args' := #[.agg #[.int .i64 x.f0, .string x.f1, .slice D2 x.f2.length e2, .slice D3 x.f3.length e3], .agg #[.int .i64 x.f0, .string x.f1, .slice F2 x.f2.length f2, .slice F3 x.f3.length f3]]) (by first | rfl) ?_; refine (switchyardref13_SameMail.calls kl x.f0 x.f1 D2 e2 x.f2 D3 e3 x.f3 x.f0 x.f1 F2 f2 x.f2 F3 f3 x.f3 true _ (Kd.R_reads' G2.out).2.2 M2.out (Kd.R_reads' G3.out).2.2 M3.out (Kd.C_below K2.out HB.out) N2.out (Kd.C_below K3.out HB.out) N3.out HSX.out).mono ?_; rintro e wn ⟨rfl, hb⟩; have n0_ := Aside0.mk (HX.out.below hb); have n1_ := Aside0.mk (HRB.out.below hb); have n2_ := Aside0.mk (Nat.le_trans HSZ.out hb.size); have n3_ := Aside0.mk (below_step HB.out hb); clear HX HRB HSZ HB hb; have HX := n0_; have HRB := n1_; have HSZ := n2_; have HB := n3_; clear n0_ n1_ n2_ n3_))
              obtain ⟨L', hL'⟩ : ∃ L' : List S30, L' = L2 := ⟨_, rfl⟩
              rw [← hL'] at HX HRB
              have HOK' := Aside0.mk (show ∀ x, x ∈ L' → OkM x by rw [hL']; exact fun y hy => HOK.out y (List.mem_cons_of_mem _ hy))
              have HLI' := Aside0.mk (show L'.length ≤ i + 1 by rw [hL']; have := HLI.out; rw [List.length_cons] at this; omega)
              clear hL'
              obtain ⟨vr, hgr, hBg, hsl⟩ := HRB.out
              have hsl0 := hsl
              obtain ⟨A, cr, rfl, _⟩ := hsl0
              have HGR := Aside0.mk hgr
              have HSL := Aside0.mk hsl
              clear hgr hsl HRB
              have hsub : wrap64 ((cap : Int) - (L'.length : Int)) = ((cap - L'.length : Nat) : Int) := by have := HX.out.2.1; have := HX.out.2.2.1; unfold wrap64; omega
              refine start_ (n := 23) (S := fun w' => w'.cell? ⟨gr, 0, none⟩ = some (.slice A L'.length cr) ∧ w'.cell? ⟨gr, 1, none⟩ = some (.int .i64 (cap : Int))) (ds := []) #[false, false, false, false, false, false, false, false, false, false, false, false, false, false, false, false, false, false, false, false, false, false, false] (by kernel_rfl) rfl rfl ⟨(blk_cell HGR.out 0).trans rfl, (blk_cell HGR.out 1).trans rfl⟩ (fun hHeld => ?_)
              refine with_tabW mailPlays.tab24 mailPlays.bits24 (fun HT_ HW_ => ?_)
              have n0_ := Aside0.mk (HX.out.drew)
              have n1_ := Aside0.mk (blk_drew HGR.out)
              have n2_ := Aside0.mk (SL.drew HSL.out)
              have n3_ := Aside0.mk (below_drew1 HB.out)
              have n4_ := Aside0.mk ((show B0 ≤ wn.drew.heap.size from HSZ.out))
              clear HX HGR HSL HB HSZ
              have HX := n0_
              have HGR := n1_
              have HSL := n2_
              have HB := n3_
              have HSZ := n4_
              clear n0_ n1_ n2_ n3_ n4_
              generalize wn.drew = wm at HX HGR HSL HB HSZ hHeld ⊢
              refine pure_ (i := 0) (N := (some 79)) (v := ?_) (a' := ?_) #[true, false, false, false, false, false, false, false, false, false, false, false, false, false, false, false, false, false, false, false, false, false, false] rfl rfl (any_of HT_.out (by kernel_rfl)) (fun _ _ _ h => h) (Or.inl ⟨by rfl, ?_⟩) ?_ ?_
              rotate_left
              · intro w'
                go_simp
                with_reducible rfl
              rotate_left
              · simp only [Act.put, List.setIfInBounds_toArray, List.set_cons_zero, List.set_cons_succ, i64_w, i32_w]
                rfl
              refine pure_ (i := 2) (N := (some 81)) (v := ?_) (a' := ?_) #[true, false, true, false, false, false, false, false, false, false, false, false, false, false, false, false, false, false, false, false, false, false, false] rfl rfl (any_of HT_.out (by kernel_rfl)) (fun _ _ _ h => h) (Or.inl ⟨by rfl, ?_⟩) ?_ ?_
              rotate_left
              · intro w'
                go_simp
                with_reducible rfl
              rotate_left
              · simp only [Act.put, List.setIfInBounds_toArray, List.set_cons_zero, List.set_cons_succ, i64_w, i32_w]
                rfl
              refine pure_ (i := 3) (N := (some 82)) (v := ?_) (a' := ?_) #[true, false, true, true, false, false, false, false, false, false, false, false, false, false, false, false, false, false, false, false, false, false, false] rfl rfl (any_of HT_.out (by kernel_rfl)) (fun _ _ _ h => h) (Or.inl ⟨by rfl, ?_⟩) ?_ ?_
              rotate_left
              · intro w'
                go_simp
                with_reducible rfl
              rotate_left
              · simp only [Act.put, List.setIfInBounds_toArray, List.set_cons_zero, List.set_cons_succ, i64_w, i32_w]
                rfl
              refine pure_ (i := 4) (N := (some 83)) (v := ?_) (a' := ?_) #[true, false, true, true, true, false, false, false, false, false, false, false, false, false, false, false, false, false, false, false, false, false, false] rfl rfl (any_of HT_.out (by kernel_rfl)) (fun _ _ _ h => h) (Or.inl ⟨by rfl, ?_⟩) ?_ ?_
              rotate_left
              · intro w'
                go_simp
                with_reducible rfl
              rotate_left
              · simp only [Act.put, List.setIfInBounds_toArray, List.set_cons_zero, List.set_cons_succ, i64_w, i32_w]
                rfl
              refine take_ (i := 5) (N := (some 84)) (v := ?_) (a' := ?_) #[true, false, true, true, true, true, false, false, false, false, false, false, false, false, false, false, false, false, false, false, false, false, false] rfl rfl (take_ofW HT_.out HW_.out (by kernel_rfl)) (fun _ _ _ h => h) (Or.inl ⟨by rfl, ?_⟩) hHeld ?_ ?_
              rotate_left
              · rintro w' ⟨s0, s1⟩
                go_simp
                with_reducible rfl
              rotate_left
              · simp only [Act.put, List.setIfInBounds_toArray, List.set_cons_zero, List.set_cons_succ, i64_w, i32_w]
                rfl
              refine take_ (i := 6) (N := (some 85)) (v := ?_) (a' := ?_) #[true, false, true, true, true, true, true, false, false, false, false, false, false, false, false, false, false, false, false, false, false, false, false] rfl rfl (take_ofW HT_.out HW_.out (by kernel_rfl)) (fun _ _ _ h => h) (Or.inl ⟨by rfl, ?_⟩) hHeld ?_ ?_
              rotate_left
              · rintro w' ⟨s0, s1⟩
                go_simp
                with_reducible rfl
              rotate_left
              · simp only [Act.put, List.setIfInBounds_toArray, List.set_cons_zero, List.set_cons_succ, i64_w, i32_w]
                rfl
              refine one_ (i := 1) (N := (some 80)) #[true, true, true, true, true, true, true, false, false, false, false, false, false, false, false, false, false, false, false, false, false, false, false] rfl rfl (one_of HT_.out (by kernel_rfl)) (by decide) (fun K hK => ?_)
              refine goes_ Try.func18 (by kernel_rfl) rfl #[.pointer (some ⟨g, 0, none⟩)] (by rfl) rfl rfl (by (try simp only [List.map_toArray, List.map_cons, List.map_nil]); first | done | rfl) ?_
              refine (len_box _ B0 _ g c cap L' HX.out).mono ?_
              rintro e wk ⟨rfl, hb⟩
              refine ⟨_, rfl, ?_⟩
              have n0_ := Aside0.mk (HX.out.below hb)
              have n1_ := Aside0.mk (Nat.le_trans HSZ.out hb.size)
              have n2_ := Aside0.mk (blk_below HGR.out hb)
              have n3_ := Aside0.mk (HSL.out.below hb)
              have n4_ := Aside0.mk (below_step HB.out hb)
              clear HX HSZ HGR HSL HB hb
              have HX := n0_
              have HSZ := n1_
              have HGR := n2_
              have HSL := n3_
              have HB := n4_
              clear n0_ n1_ n2_ n3_ n4_
              refine hK.out _ _ ⟨(blk_cell HGR.out 0).trans rfl, (blk_cell HGR.out 1).trans rfl⟩ (fun hHeld => ?_)
              clear hK K
              refine norm_ (a' := ?_) ?_ ?_
              rotate_left
              · show Act.put _ (some 80) _ = _
                simp only [Act.put, List.setIfInBounds_toArray, List.set_cons_zero, List.set_cons_succ, i64_w, i32_w]
                rfl
              refine pure_ (i := 7) (N := (some 86)) (v := ?_) (a' := ?_) #[true, true, true, true, true, true, true, true, false, false, false, false, false, false, false, false, false, false, false, false, false, false, false] rfl rfl (any_of HT_.out (by kernel_rfl)) (fun _ _ _ h => h) (Or.inl ⟨by rfl, ?_⟩) ?_ ?_
              rotate_left
              · intro w'
                go_simp
                with_reducible rfl
              rotate_left
              · simp only [Act.put, List.setIfInBounds_toArray, List.set_cons_zero, List.set_cons_succ, i64_w, i32_w]
                rfl
              refine pure_ (i := 8) (N := (some 87)) (v := ?_) (a' := ?_) #[true, true, true, true, true, true, true, true, true, false, false, false, false, false, false, false, false, false, false, false, false, false, false] rfl rfl (any_of HT_.out (by kernel_rfl)) (fun _ _ _ h => h) (Or.inl ⟨by rfl, ?_⟩) ?_ ?_
              rotate_left
              · intro w'
                go_simp
                with_reducible rfl
              rotate_left
              · simp only [Act.put, List.setIfInBounds_toArray, List.set_cons_zero, List.set_cons_succ, i64_w, i32_w]
                rfl
              refine pure_ (i := 9) (N := (some 88)) (v := ?_) (a' := ?_) #[true, true, true, true, true, true, true, true, true, true, false, false, false, false, false, false, false, false, false, false, false, false, false] rfl rfl (any_of HT_.out (by kernel_rfl)) (fun _ _ _ h => h) (Or.inl ⟨by rfl, ?_⟩) ?_ ?_
              rotate_left
              · intro w'
                go_simp
                with_reducible rfl
              rotate_left
              · simp only [Act.put, List.setIfInBounds_toArray, List.set_cons_zero, List.set_cons_succ, i64_w, i32_w]
                rfl
              refine pure_ (i := 11) (N := (some 90)) (v := ?_) (a' := ?_) #[true, true, true, true, true, true, true, true, true, true, false, true, false, false, false, false, false, false, false, false, false, false, false] rfl rfl (any_of HT_.out (by kernel_rfl)) (fun _ _ _ h => h) (Or.inl ⟨by rfl, ?_⟩) ?_ ?_
              rotate_left
              · intro w'
                go_simp
                with_reducible rfl
              rotate_left
              · simp only [Act.put, List.setIfInBounds_toArray, List.set_cons_zero, List.set_cons_succ, i64_w, i32_w]
                rfl
              refine pure_ (i := 12) (N := (some 91)) (v := ?_) (a' := ?_) #[true, true, true, true, true, true, true, true, true, true, false, true, true, false, false, false, false, false, false, false, false, false, false] rfl rfl (any_of HT_.out (by kernel_rfl)) (fun _ _ _ h => h) (Or.inl ⟨by rfl, ?_⟩) ?_ ?_
              rotate_left
              · intro w'
                go_simp
                with_reducible rfl
              rotate_left
              · simp only [Act.put, List.setIfInBounds_toArray, List.set_cons_zero, List.set_cons_succ, i64_w, i32_w]
                rfl
              refine pure_ (i := 13) (N := (some 92)) (v := ?_) (a' := ?_) #[true, true, true, true, true, true, true, true, true, true, false, true, true, true, false, false, false, false, false, false, false, false, false] rfl rfl (any_of HT_.out (by kernel_rfl)) (fun _ _ _ h => h) (Or.inl ⟨by rfl, ?_⟩) ?_ ?_
              rotate_left
              · intro w'
                go_simp
                with_reducible rfl
              rotate_left
              · simp only [Act.put, List.setIfInBounds_toArray, List.set_cons_zero, List.set_cons_succ, i64_w, i32_w]
                rfl
              refine take_ (i := 14) (N := (some 93)) (v := ?_) (a' := ?_) #[true, true, true, true, true, true, true, true, true, true, false, true, true, true, true, false, false, false, false, false, false, false, false] rfl rfl (take_ofW HT_.out HW_.out (by kernel_rfl)) (fun _ _ _ h => h) (Or.inl ⟨by rfl, ?_⟩) hHeld ?_ ?_
              rotate_left
              · rintro w' ⟨s0, s1⟩
                go_simp
                with_reducible rfl
              rotate_left
              · simp only [Act.put, List.setIfInBounds_toArray, List.set_cons_zero, List.set_cons_succ, i64_w, i32_w]
                rfl
              refine pure_ (i := 15) (N := (some 94)) (v := ?_) (a' := ?_) #[true, true, true, true, true, true, true, true, true, true, false, true, true, true, true, true, false, false, false, false, false, false, false] rfl rfl (any_of HT_.out (by kernel_rfl)) (fun _ _ _ h => h) (Or.inl ⟨by rfl, ?_⟩) ?_ ?_
              rotate_left
              · intro w'
                go_simp
                with_reducible rfl
              rotate_left
              · simp only [Act.put, List.setIfInBounds_toArray, List.set_cons_zero, List.set_cons_succ, i64_w, i32_w]
                rfl
              refine pure_ (i := 16) (N := (some 95)) (v := ?_) (a' := ?_) #[true, true, true, true, true, true, true, true, true, true, false, true, true, true, true, true, true, false, false, false, false, false, false] rfl rfl (any_of HT_.out (by kernel_rfl)) (fun _ _ _ h => h) (Or.inl ⟨by rfl, ?_⟩) ?_ ?_
              rotate_left
              · intro w'
                go_simp
                with_reducible rfl
              rotate_left
              · simp only [Act.put, List.setIfInBounds_toArray, List.set_cons_zero, List.set_cons_succ, i64_w, i32_w]
                rfl
              refine pure_ (i := 17) (N := (some 96)) (v := ?_) (a' := ?_) #[true, true, true, true, true, true, true, true, true, true, false, true, true, true, true, true, true, true, false, false, false, false, false] rfl rfl (any_of HT_.out (by kernel_rfl)) (fun _ _ _ h => h) (Or.inl ⟨by rfl, ?_⟩) ?_ ?_
              rotate_left
              · intro w'
                go_simp
                with_reducible rfl
              rotate_left
              · simp only [Act.put, List.setIfInBounds_toArray, List.set_cons_zero, List.set_cons_succ, i64_w, i32_w]
                rfl
              refine take_ (i := 18) (N := (some 97)) (v := ?_) (a' := ?_) #[true, true, true, true, true, true, true, true, true, true, false, true, true, true, true, true, true, true, true, false, false, false, false] rfl rfl (take_ofW HT_.out HW_.out (by kernel_rfl)) (fun _ _ _ h => h) (Or.inl ⟨by rfl, ?_⟩) hHeld ?_ ?_
              rotate_left
              · rintro w' ⟨s0, s1⟩
                go_simp
                with_reducible rfl
              rotate_left
              · simp only [Act.put, List.setIfInBounds_toArray, List.set_cons_zero, List.set_cons_succ, i64_w, i32_w]
                rfl
              refine take_ (i := 19) (N := (some 98)) (v := ?_) (a' := ?_) #[true, true, true, true, true, true, true, true, true, true, false, true, true, true, true, true, true, true, true, true, false, false, false] rfl rfl (take_ofW HT_.out HW_.out (by kernel_rfl)) (fun _ _ _ h => h) (Or.inl ⟨by rfl, ?_⟩) hHeld ?_ ?_
              rotate_left
              · rintro w' ⟨s0, s1⟩
                go_simp
                with_reducible rfl
              rotate_left
              · simp only [Act.put, List.setIfInBounds_toArray, List.set_cons_zero, List.set_cons_succ, i64_w, i32_w]
                rfl
              refine pure_ (i := 20) (N := (some 99)) (v := ?_) (a' := ?_) #[true, true, true, true, true, true, true, true, true, true, false, true, true, true, true, true, true, true, true, true, true, false, false] rfl rfl (any_of HT_.out (by kernel_rfl)) (fun _ _ _ h => h) (Or.inl ⟨by rfl, ?_⟩) ?_ ?_
              rotate_left
              · intro w'
                go_simp
                with_reducible rfl
              rotate_left
              · simp only [Act.put, List.setIfInBounds_toArray, List.set_cons_zero, List.set_cons_succ, i64_w, i32_w]
                rfl
              refine one_ (i := 10) (N := (some 89)) #[true, true, true, true, true, true, true, true, true, true, true, true, true, true, true, true, true, true, true, true, true, false, false] rfl rfl (one_of HT_.out (by kernel_rfl)) (by decide) (fun K hK => ?_)
              refine goes_ Try.func19 (by kernel_rfl) rfl #[.pointer (some ⟨g, 0, none⟩)] (by rfl) rfl rfl (by (try simp only [List.map_toArray, List.map_cons, List.map_nil]); first | done | rfl) ?_
              refine (room_box _ B0 _ g c cap L' HX.out).mono ?_
              rintro e wk ⟨rfl, hb⟩
              refine ⟨_, rfl, ?_⟩
              have n0_ := Aside0.mk (HX.out.below hb)
              have n1_ := Aside0.mk (Nat.le_trans HSZ.out hb.size)
              have n2_ := Aside0.mk (blk_below HGR.out hb)
              have n3_ := Aside0.mk (HSL.out.below hb)
              have n4_ := Aside0.mk (below_step HB.out hb)
              clear HX HSZ HGR HSL HB hb
              have HX := n0_
              have HSZ := n1_
              have HGR := n2_
              have HSL := n3_
              have HB := n4_
              clear n0_ n1_ n2_ n3_ n4_
              refine hK.out _ _ ⟨(blk_cell HGR.out 0).trans rfl, (blk_cell HGR.out 1).trans rfl⟩ (fun hHeld => ?_)
              clear hK K
              refine norm_ (a' := ?_) ?_ ?_
              rotate_left
              · show Act.put _ (some 89) _ = _
                simp only [Act.put, List.setIfInBounds_toArray, List.set_cons_zero, List.set_cons_succ, i64_w, i32_w]
                rfl
              refine pure_ (i := 21) (N := (some 100)) (v := ?_) (a' := ?_) #[true, true, true, true, true, true, true, true, true, true, true, true, true, true, true, true, true, true, true, true, true, true, false] rfl rfl (any_of HT_.out (by kernel_rfl)) (fun _ _ _ h => h) (Or.inl ⟨by rfl, ?_⟩) ?_ ?_
              rotate_left
              · intro w'
                go_simp
                with_reducible rfl
              rotate_left
              · simp only [Act.put, List.setIfInBounds_toArray, List.set_cons_zero, List.set_cons_succ, i64_w, i32_w]
                rfl
              refine pure_ (i := 22) (N := (some 101)) (v := ?_) (a' := ?_) #[true, true, true, true, true, true, true, true, true, true, true, true, true, true, true, true, true, true, true, true, true, true, true] rfl rfl (any_of HT_.out (by kernel_rfl)) (fun _ _ _ h => h) (Or.inl ⟨by rfl, ?_⟩) ?_ ?_
              rotate_left
              · intro w'
                go_simp
                with_reducible rfl
              rotate_left
              · simp only [Act.put, List.setIfInBounds_toArray, List.set_cons_zero, List.set_cons_succ, i64_w, i32_w]
                rfl
              refine done_ (done_of HT_.out (by kernel_rfl)) ?_
              go_wp2
              go_roundg (gk - 1)
              case measure => have := HK.out; omega
              case rel => exact ⟨i + 1, L', _, congrArg (Value.int .i64) (Int.natCast_add i 1).symm, ⟨by have := HK.out; omega⟩, ⟨by omega⟩, HX, ⟨⟨_, HGR.out, hBg, HSL.out⟩⟩, HB, HOK', HLI', HSZ⟩
          · cases L with
            | nil =>
              go_wp2_with (first
                | (go_at_call 11; refine calls_of_args (args' := #[.pointer (some ⟨g, 0, none⟩)]) (by first | rfl) ?_; refine (take_none _ B0 S g c cap HX.out (Nat.le_trans HB0.out HSZ.out)).mono ?_; rintro e wn ⟨rfl, hX, hb⟩; have n0_ := Aside0.mk (HRB.out.but HX.out hb); have n1_ := Aside0.mk (HB.out.trans (hb.below (Nat.le_trans HBL.out HX.out.1) HB.out.size)); have n2_ := Aside0.mk (Nat.le_trans HSZ.out hb.size); clear HRB HB HSZ; have HRB := n0_; have HB := n1_; have HSZ := n2_; clear n0_ n1_ n2_; have HX' := Aside0.mk hX; clear HX hX hb; have HX := HX'; clear HX')
                | ((with_reducible refine gate_store (t := 30) (p := 9) (v := .tmp 52) rfl ?_); refine store30 (seg := [.int .i64 0, .string ⟨#[]⟩, .slice none 0 0, .slice none 0 0]) rfl rfl rfl rfl rfl rfl rfl (by simp [Value.oneCell']) (heap_alloc_new _ _) rfl ?_; intro wn ho3 hn3; have hb := only_new ho3; have BK9 := Aside0.mk hn3; have n0_ := Aside0.mk (HX.out.below hb); have n1_ := Aside0.mk (HRB.out.below hb); have n2_ := Aside0.mk (Nat.le_trans HSZ.out hb.size); have n3_ := Aside0.mk (below_step HB.out hb); clear HX HRB HSZ HB hb; have HX := n0_; have HRB := n1_; have HSZ := n2_; have HB := n3_; clear n0_ n1_ n2_ n3_; clear ho3 hn3)
                | (go_at_call 12; refine calls_of_args (args' := #[.pointer (some ⟨gr, 0, none⟩)]) (by first | rfl) ?_; refine (ref_take_none W _ W.heap.size gr (cap : Int) HRB.out).mono ?_; rintro e wn ⟨rfl, hb⟩; have n0_ := Aside0.mk (blk_below BK9.out hb); clear BK9; have BK9 := n0_; clear n0_; have n0_ := Aside0.mk (HX.out.below hb); have n1_ := Aside0.mk (HRB.out.below hb); have n2_ := Aside0.mk (Nat.le_trans HSZ.out hb.size); have n3_ := Aside0.mk (below_step HB.out hb); clear HX HRB HSZ HB hb; have HX := n0_; have HRB := n1_; have HSZ := n2_; have HB := n3_; clear n0_ n1_ n2_ n3_)
                | ((with_reducible refine gate_store (t := 30) (p := 11) (v := .tmp 57) rfl ?_); refine store30 (seg := [.int .i64 0, .string ⟨#[]⟩, .slice none 0 0, .slice none 0 0]) rfl rfl rfl rfl rfl rfl rfl (by simp [Value.oneCell']) (heap_alloc_new _ _) rfl ?_; intro wn ho3 hn3; have hb := only_new ho3; have y0 := (blk_cell hn3 0).trans rfl; have y1 := (blk_cell hn3 1).trans rfl; have y2 := (blk_cell hn3 2).trans rfl; have y3 := (blk_cell hn3 3).trans rfl; simp only [List.getElem?_toArray, List.getElem?_cons_zero, List.getElem?_cons_succ] at y0 y1 y2 y3; have hbk := blk_below BK9.out hb; have z0 := (blk_cell hbk 0).trans rfl; have z1 := (blk_cell hbk 1).trans rfl; have z2 := (blk_cell hbk 2).trans rfl; have z3 := (blk_cell hbk 3).trans rfl; simp only [List.getElem?_toArray, List.getElem?_cons_zero, List.getElem?_cons_succ] at z0 z1 z2 z3; clear hbk BK9; have n0_ := Aside0.mk (HX.out.below hb); have n1_ := Aside0.mk (HRB.out.below hb); have n2_ := Aside0.mk (Nat.le_trans HSZ.out hb.size); have n3_ := Aside0.mk (below_step HB.out hb); clear HX HRB HSZ HB hb; have HX := n0_; have HRB := n1_; have HSZ := n2_; have HB := n3_; clear n0_ n1_ n2_ n3_; clear ho3 hn3)
                | (go_at_call 13; refine calls_of_args (args' := #[.agg #[.int .i64 0, .string ⟨#[]⟩, .slice none 0 0, .slice none 0 0], .agg #[.int .i64 0, .string ⟨#[]⟩, .slice none 0 0, .slice none 0 0]]) (by first | rfl) ?_; refine (switchyardref13_SameMail.calls kl 0 ⟨#[]⟩ none 0 ([] : List S49) none 0 ([] : List S49) 0 ⟨#[]⟩ none 0 ([] : List S49) none 0 ([] : List S49) true _ (Kd.C_nil _ _) (Nat.le_refl _) (Kd.C_nil _ _) (Nat.le_refl _) (Kd.C_nil _ _) (Nat.le_refl _) (Kd.C_nil _ _) (Nat.le_refl _) HSZ0.out).mono ?_; rintro e wn ⟨rfl, hb⟩; have n0_ := Aside0.mk (HX.out.below hb); have n1_ := Aside0.mk (HRB.out.below hb); have n2_ := Aside0.mk (Nat.le_trans HSZ.out hb.size); have n3_ := Aside0.mk (below_step HB.out hb); clear HX HRB HSZ HB hb; have HX := n0_; have HRB := n1_; have HSZ := n2_; have HB := n3_; clear n0_ n1_ n2_ n3_))
              obtain ⟨L', hL'⟩ : ∃ L' : List S30, L' = [] := ⟨_, rfl⟩
              rw [← hL'] at HX HRB
              have HOK' := Aside0.mk (show ∀ x, x ∈ L' → OkM x by rw [hL']; exact HOK.out)
              have HLI' := Aside0.mk (show L'.length ≤ i + 1 by rw [hL']; exact Nat.zero_le _)
              clear hL'
              obtain ⟨vr, hgr, hBg, hsl⟩ := HRB.out
              have hsl0 := hsl
              obtain ⟨A, cr, rfl, _⟩ := hsl0
              have HGR := Aside0.mk hgr
              have HSL := Aside0.mk hsl
              clear hgr hsl HRB
              have hsub : wrap64 ((cap : Int) - (L'.length : Int)) = ((cap - L'.length : Nat) : Int) := by have := HX.out.2.1; have := HX.out.2.2.1; unfold wrap64; omega
              refine start_ (n := 23) (S := fun w' => w'.cell? ⟨gr, 0, none⟩ = some (.slice A L'.length cr) ∧ w'.cell? ⟨gr, 1, none⟩ = some (.int .i64 (cap : Int))) (ds := []) #[false, false, false, false, false, false, false, false, false, false, false, false, false, false, false, false, false, false, false, false, false, false, false] (by kernel_rfl) rfl rfl ⟨(blk_cell HGR.out 0).trans rfl, (blk_cell HGR.out 1).trans rfl⟩ (fun hHeld => ?_)
              refine with_tabW mailPlays.tab24 mailPlays.bits24 (fun HT_ HW_ => ?_)
              have n0_ := Aside0.mk (HX.out.drew)
              have n1_ := Aside0.mk (blk_drew HGR.out)
              have n2_ := Aside0.mk (SL.drew HSL.out)
              have n3_ := Aside0.mk (below_drew1 HB.out)
              have n4_ := Aside0.mk ((show B0 ≤ wn.drew.heap.size from HSZ.out))
              clear HX HGR HSL HB HSZ
              have HX := n0_
              have HGR := n1_
              have HSL := n2_
              have HB := n3_
              have HSZ := n4_
              clear n0_ n1_ n2_ n3_ n4_
              generalize wn.drew = wm at HX HGR HSL HB HSZ hHeld ⊢
              refine pure_ (i := 0) (N := (some 79)) (v := ?_) (a' := ?_) #[true, false, false, false, false, false, false, false, false, false, false, false, false, false, false, false, false, false, false, false, false, false, false] rfl rfl (any_of HT_.out (by kernel_rfl)) (fun _ _ _ h => h) (Or.inl ⟨by rfl, ?_⟩) ?_ ?_
              rotate_left
              · intro w'
                go_simp
                with_reducible rfl
              rotate_left
              · simp only [Act.put, List.setIfInBounds_toArray, List.set_cons_zero, List.set_cons_succ, i64_w, i32_w]
                rfl
              refine pure_ (i := 2) (N := (some 81)) (v := ?_) (a' := ?_) #[true, false, true, false, false, false, false, false, false, false, false, false, false, false, false, false, false, false, false, false, false, false, false] rfl rfl (any_of HT_.out (by kernel_rfl)) (fun _ _ _ h => h) (Or.inl ⟨by rfl, ?_⟩) ?_ ?_
              rotate_left
              · intro w'
                go_simp
                with_reducible rfl
              rotate_left
              · simp only [Act.put, List.setIfInBounds_toArray, List.set_cons_zero, List.set_cons_succ, i64_w, i32_w]
                rfl
              refine pure_ (i := 3) (N := (some 82)) (v := ?_) (a' := ?_) #[true, false, true, true, false, false, false, false, false, false, false, false, false, false, false, false, false, false, false, false, false, false, false] rfl rfl (any_of HT_.out (by kernel_rfl)) (fun _ _ _ h => h) (Or.inl ⟨by rfl, ?_⟩) ?_ ?_
              rotate_left
              · intro w'
                go_simp
                with_reducible rfl
              rotate_left
              · simp only [Act.put, List.setIfInBounds_toArray, List.set_cons_zero, List.set_cons_succ, i64_w, i32_w]
                rfl
              refine pure_ (i := 4) (N := (some 83)) (v := ?_) (a' := ?_) #[true, false, true, true, true, false, false, false, false, false, false, false, false, false, false, false, false, false, false, false, false, false, false] rfl rfl (any_of HT_.out (by kernel_rfl)) (fun _ _ _ h => h) (Or.inl ⟨by rfl, ?_⟩) ?_ ?_
              rotate_left
              · intro w'
                go_simp
                with_reducible rfl
              rotate_left
              · simp only [Act.put, List.setIfInBounds_toArray, List.set_cons_zero, List.set_cons_succ, i64_w, i32_w]
                rfl
              refine take_ (i := 5) (N := (some 84)) (v := ?_) (a' := ?_) #[true, false, true, true, true, true, false, false, false, false, false, false, false, false, false, false, false, false, false, false, false, false, false] rfl rfl (take_ofW HT_.out HW_.out (by kernel_rfl)) (fun _ _ _ h => h) (Or.inl ⟨by rfl, ?_⟩) hHeld ?_ ?_
              rotate_left
              · rintro w' ⟨s0, s1⟩
                go_simp
                with_reducible rfl
              rotate_left
              · simp only [Act.put, List.setIfInBounds_toArray, List.set_cons_zero, List.set_cons_succ, i64_w, i32_w]
                rfl
              refine take_ (i := 6) (N := (some 85)) (v := ?_) (a' := ?_) #[true, false, true, true, true, true, true, false, false, false, false, false, false, false, false, false, false, false, false, false, false, false, false] rfl rfl (take_ofW HT_.out HW_.out (by kernel_rfl)) (fun _ _ _ h => h) (Or.inl ⟨by rfl, ?_⟩) hHeld ?_ ?_
              rotate_left
              · rintro w' ⟨s0, s1⟩
                go_simp
                with_reducible rfl
              rotate_left
              · simp only [Act.put, List.setIfInBounds_toArray, List.set_cons_zero, List.set_cons_succ, i64_w, i32_w]
                rfl
              refine one_ (i := 1) (N := (some 80)) #[true, true, true, true, true, true, true, false, false, false, false, false, false, false, false, false, false, false, false, false, false, false, false] rfl rfl (one_of HT_.out (by kernel_rfl)) (by decide) (fun K hK => ?_)
              refine goes_ Try.func18 (by kernel_rfl) rfl #[.pointer (some ⟨g, 0, none⟩)] (by rfl) rfl rfl (by (try simp only [List.map_toArray, List.map_cons, List.map_nil]); first | done | rfl) ?_
              refine (len_box _ B0 _ g c cap L' HX.out).mono ?_
              rintro e wk ⟨rfl, hb⟩
              refine ⟨_, rfl, ?_⟩
              have n0_ := Aside0.mk (HX.out.below hb)
              have n1_ := Aside0.mk (Nat.le_trans HSZ.out hb.size)
              have n2_ := Aside0.mk (blk_below HGR.out hb)
              have n3_ := Aside0.mk (HSL.out.below hb)
              have n4_ := Aside0.mk (below_step HB.out hb)
              clear HX HSZ HGR HSL HB hb
              have HX := n0_
              have HSZ := n1_
              have HGR := n2_
              have HSL := n3_
              have HB := n4_
              clear n0_ n1_ n2_ n3_ n4_
              refine hK.out _ _ ⟨(blk_cell HGR.out 0).trans rfl, (blk_cell HGR.out 1).trans rfl⟩ (fun hHeld => ?_)
              clear hK K
              refine norm_ (a' := ?_) ?_ ?_
              rotate_left
              · show Act.put _ (some 80) _ = _
                simp only [Act.put, List.setIfInBounds_toArray, List.set_cons_zero, List.set_cons_succ, i64_w, i32_w]
                rfl
              refine pure_ (i := 7) (N := (some 86)) (v := ?_) (a' := ?_) #[true, true, true, true, true, true, true, true, false, false, false, false, false, false, false, false, false, false, false, false, false, false, false] rfl rfl (any_of HT_.out (by kernel_rfl)) (fun _ _ _ h => h) (Or.inl ⟨by rfl, ?_⟩) ?_ ?_
              rotate_left
              · intro w'
                go_simp
                with_reducible rfl
              rotate_left
              · simp only [Act.put, List.setIfInBounds_toArray, List.set_cons_zero, List.set_cons_succ, i64_w, i32_w]
                rfl
              refine pure_ (i := 8) (N := (some 87)) (v := ?_) (a' := ?_) #[true, true, true, true, true, true, true, true, true, false, false, false, false, false, false, false, false, false, false, false, false, false, false] rfl rfl (any_of HT_.out (by kernel_rfl)) (fun _ _ _ h => h) (Or.inl ⟨by rfl, ?_⟩) ?_ ?_
              rotate_left
              · intro w'
                go_simp
                with_reducible rfl
              rotate_left
              · simp only [Act.put, List.setIfInBounds_toArray, List.set_cons_zero, List.set_cons_succ, i64_w, i32_w]
                rfl
              refine pure_ (i := 9) (N := (some 88)) (v := ?_) (a' := ?_) #[true, true, true, true, true, true, true, true, true, true, false, false, false, false, false, false, false, false, false, false, false, false, false] rfl rfl (any_of HT_.out (by kernel_rfl)) (fun _ _ _ h => h) (Or.inl ⟨by rfl, ?_⟩) ?_ ?_
              rotate_left
              · intro w'
                go_simp
                with_reducible rfl
              rotate_left
              · simp only [Act.put, List.setIfInBounds_toArray, List.set_cons_zero, List.set_cons_succ, i64_w, i32_w]
                rfl
              refine pure_ (i := 11) (N := (some 90)) (v := ?_) (a' := ?_) #[true, true, true, true, true, true, true, true, true, true, false, true, false, false, false, false, false, false, false, false, false, false, false] rfl rfl (any_of HT_.out (by kernel_rfl)) (fun _ _ _ h => h) (Or.inl ⟨by rfl, ?_⟩) ?_ ?_
              rotate_left
              · intro w'
                go_simp
                with_reducible rfl
              rotate_left
              · simp only [Act.put, List.setIfInBounds_toArray, List.set_cons_zero, List.set_cons_succ, i64_w, i32_w]
                rfl
              refine pure_ (i := 12) (N := (some 91)) (v := ?_) (a' := ?_) #[true, true, true, true, true, true, true, true, true, true, false, true, true, false, false, false, false, false, false, false, false, false, false] rfl rfl (any_of HT_.out (by kernel_rfl)) (fun _ _ _ h => h) (Or.inl ⟨by rfl, ?_⟩) ?_ ?_
              rotate_left
              · intro w'
                go_simp
                with_reducible rfl
              rotate_left
              · simp only [Act.put, List.setIfInBounds_toArray, List.set_cons_zero, List.set_cons_succ, i64_w, i32_w]
                rfl
              refine pure_ (i := 13) (N := (some 92)) (v := ?_) (a' := ?_) #[true, true, true, true, true, true, true, true, true, true, false, true, true, true, false, false, false, false, false, false, false, false, false] rfl rfl (any_of HT_.out (by kernel_rfl)) (fun _ _ _ h => h) (Or.inl ⟨by rfl, ?_⟩) ?_ ?_
              rotate_left
              · intro w'
                go_simp
                with_reducible rfl
              rotate_left
              · simp only [Act.put, List.setIfInBounds_toArray, List.set_cons_zero, List.set_cons_succ, i64_w, i32_w]
                rfl
              refine take_ (i := 14) (N := (some 93)) (v := ?_) (a' := ?_) #[true, true, true, true, true, true, true, true, true, true, false, true, true, true, true, false, false, false, false, false, false, false, false] rfl rfl (take_ofW HT_.out HW_.out (by kernel_rfl)) (fun _ _ _ h => h) (Or.inl ⟨by rfl, ?_⟩) hHeld ?_ ?_
              rotate_left
              · rintro w' ⟨s0, s1⟩
                go_simp
                with_reducible rfl
              rotate_left
              · simp only [Act.put, List.setIfInBounds_toArray, List.set_cons_zero, List.set_cons_succ, i64_w, i32_w]
                rfl
              refine pure_ (i := 15) (N := (some 94)) (v := ?_) (a' := ?_) #[true, true, true, true, true, true, true, true, true, true, false, true, true, true, true, true, false, false, false, false, false, false, false] rfl rfl (any_of HT_.out (by kernel_rfl)) (fun _ _ _ h => h) (Or.inl ⟨by rfl, ?_⟩) ?_ ?_
              rotate_left
              · intro w'
                go_simp
                with_reducible rfl
              rotate_left
              · simp only [Act.put, List.setIfInBounds_toArray, List.set_cons_zero, List.set_cons_succ, i64_w, i32_w]
                rfl
              refine pure_ (i := 16) (N := (some 95)) (v := ?_) (a' := ?_) #[true, true, true, true, true, true, true, true, true, true, false, true, true, true, true, true, true, false, false, false, false, false, false] rfl rfl (any_of HT_.out (by kernel_rfl)) (fun _ _ _ h => h) (Or.inl ⟨by rfl, ?_⟩) ?_ ?_
              rotate_left
              · intro w'
                go_simp
                with_reducible rfl
              rotate_left
              · simp only [Act.put, List.setIfInBounds_toArray, List.set_cons_zero, List.set_cons_succ, i64_w, i32_w]
                rfl
              refine pure_ (i := 17) (N := (some 96)) (v := ?_) (a' := ?_) #[true, true, true, true, true, true, true, true, true, true, false, true, true, true, true, true, true, true, false, false, false, false, false] rfl rfl (any_of HT_.out (by kernel_rfl)) (fun _ _ _ h => h) (Or.inl ⟨by rfl, ?_⟩) ?_ ?_
              rotate_left
              · intro w'
                go_simp
                with_reducible rfl
              rotate_left
              · simp only [Act.put, List.setIfInBounds_toArray, List.set_cons_zero, List.set_cons_succ, i64_w, i32_w]
                rfl
              refine take_ (i := 18) (N := (some 97)) (v := ?_) (a' := ?_) #[true, true, true, true, true, true, true, true, true, true, false, true, true, true, true, true, true, true, true, false, false, false, false] rfl rfl (take_ofW HT_.out HW_.out (by kernel_rfl)) (fun _ _ _ h => h) (Or.inl ⟨by rfl, ?_⟩) hHeld ?_ ?_
              rotate_left
              · rintro w' ⟨s0, s1⟩
                go_simp
                with_reducible rfl
              rotate_left
              · simp only [Act.put, List.setIfInBounds_toArray, List.set_cons_zero, List.set_cons_succ, i64_w, i32_w]
                rfl
              refine take_ (i := 19) (N := (some 98)) (v := ?_) (a' := ?_) #[true, true, true, true, true, true, true, true, true, true, false, true, true, true, true, true, true, true, true, true, false, false, false] rfl rfl (take_ofW HT_.out HW_.out (by kernel_rfl)) (fun _ _ _ h => h) (Or.inl ⟨by rfl, ?_⟩) hHeld ?_ ?_
              rotate_left
              · rintro w' ⟨s0, s1⟩
                go_simp
                with_reducible rfl
              rotate_left
              · simp only [Act.put, List.setIfInBounds_toArray, List.set_cons_zero, List.set_cons_succ, i64_w, i32_w]
                rfl
              refine pure_ (i := 20) (N := (some 99)) (v := ?_) (a' := ?_) #[true, true, true, true, true, true, true, true, true, true, false, true, true, true, true, true, true, true, true, true, true, false, false] rfl rfl (any_of HT_.out (by kernel_rfl)) (fun _ _ _ h => h) (Or.inl ⟨by rfl, ?_⟩) ?_ ?_
              rotate_left
              · intro w'
                go_simp
                with_reducible rfl
              rotate_left
              · simp only [Act.put, List.setIfInBounds_toArray, List.set_cons_zero, List.set_cons_succ, i64_w, i32_w]
                rfl
              refine one_ (i := 10) (N := (some 89)) #[true, true, true, true, true, true, true, true, true, true, true, true, true, true, true, true, true, true, true, true, true, false, false] rfl rfl (one_of HT_.out (by kernel_rfl)) (by decide) (fun K hK => ?_)
              refine goes_ Try.func19 (by kernel_rfl) rfl #[.pointer (some ⟨g, 0, none⟩)] (by rfl) rfl rfl (by (try simp only [List.map_toArray, List.map_cons, List.map_nil]); first | done | rfl) ?_
              refine (room_box _ B0 _ g c cap L' HX.out).mono ?_
              rintro e wk ⟨rfl, hb⟩
              refine ⟨_, rfl, ?_⟩
              have n0_ := Aside0.mk (HX.out.below hb)
              have n1_ := Aside0.mk (Nat.le_trans HSZ.out hb.size)
              have n2_ := Aside0.mk (blk_below HGR.out hb)
              have n3_ := Aside0.mk (HSL.out.below hb)
              have n4_ := Aside0.mk (below_step HB.out hb)
              clear HX HSZ HGR HSL HB hb
              have HX := n0_
              have HSZ := n1_
              have HGR := n2_
              have HSL := n3_
              have HB := n4_
              clear n0_ n1_ n2_ n3_ n4_
              refine hK.out _ _ ⟨(blk_cell HGR.out 0).trans rfl, (blk_cell HGR.out 1).trans rfl⟩ (fun hHeld => ?_)
              clear hK K
              refine norm_ (a' := ?_) ?_ ?_
              rotate_left
              · show Act.put _ (some 89) _ = _
                simp only [Act.put, List.setIfInBounds_toArray, List.set_cons_zero, List.set_cons_succ, i64_w, i32_w]
                rfl
              refine pure_ (i := 21) (N := (some 100)) (v := ?_) (a' := ?_) #[true, true, true, true, true, true, true, true, true, true, true, true, true, true, true, true, true, true, true, true, true, true, false] rfl rfl (any_of HT_.out (by kernel_rfl)) (fun _ _ _ h => h) (Or.inl ⟨by rfl, ?_⟩) ?_ ?_
              rotate_left
              · intro w'
                go_simp
                with_reducible rfl
              rotate_left
              · simp only [Act.put, List.setIfInBounds_toArray, List.set_cons_zero, List.set_cons_succ, i64_w, i32_w]
                rfl
              refine pure_ (i := 22) (N := (some 101)) (v := ?_) (a' := ?_) #[true, true, true, true, true, true, true, true, true, true, true, true, true, true, true, true, true, true, true, true, true, true, true] rfl rfl (any_of HT_.out (by kernel_rfl)) (fun _ _ _ h => h) (Or.inl ⟨by rfl, ?_⟩) ?_ ?_
              rotate_left
              · intro w'
                go_simp
                with_reducible rfl
              rotate_left
              · simp only [Act.put, List.setIfInBounds_toArray, List.set_cons_zero, List.set_cons_succ, i64_w, i32_w]
                rfl
              refine done_ (done_of HT_.out (by kernel_rfl)) ?_
              go_wp2
              go_roundg (gk - 1)
              case measure => have := HK.out; omega
              case rel => exact ⟨i + 1, L', _, congrArg (Value.int .i64) (Int.natCast_add i 1).symm, ⟨by have := HK.out; omega⟩, ⟨by omega⟩, HX, ⟨⟨_, HGR.out, hBg, HSL.out⟩⟩, HB, HOK', HLI', HSZ⟩
            | cons x L2 =>
              have HSX := Aside0.mk (HSM.out x List.mem_cons_self)
              go_wp2_with (first
                | (go_at_call 11; refine calls_of_args (args' := #[.pointer (some ⟨g, 0, none⟩)]) (by first | rfl) ?_; refine (take_some _ B0 S g c cap x L2 HX.out (Nat.le_trans HB0.out HSZ.out)).mono ?_; rintro e wn ⟨v, rfl, hM, hX, hb⟩; obtain ⟨v2, v3, rfl, r2, r3⟩ := hM; obtain ⟨D2, e2, rfl, m2, _⟩ := Kd.R_reads r2; obtain ⟨D3, e3, rfl, m3, _⟩ := Kd.R_reads r3; have n0_ := Aside0.mk (HRB.out.but HX.out hb); have n1_ := Aside0.mk (HB.out.trans (hb.below (Nat.le_trans HBL.out HX.out.1) HB.out.size)); have n2_ := Aside0.mk (Nat.le_trans HSZ.out hb.size); clear HRB HB HSZ; have HRB := n0_; have HB := n1_; have HSZ := n2_; clear n0_ n1_ n2_; have HX' := Aside0.mk hX; have G2 := Aside0.mk r2; have G3 := Aside0.mk r3; have M2 := Aside0.mk m2; have M3 := Aside0.mk m3; clear HX hX hb r2 r3 m2 m3; have HX := HX'; clear HX')
                | ((with_reducible refine gate_store (t := 30) (p := 9) (v := .tmp 52) rfl ?_); refine store30 (seg := [.int .i64 x.f0, .string x.f1, .slice D2 x.f2.length e2, .slice D3 x.f3.length e3]) rfl rfl rfl rfl rfl rfl rfl (by simp [Value.oneCell']) (heap_alloc_new _ _) rfl ?_; intro wn ho3 hn3; have hb := only_new ho3; have n0_ := Aside0.mk (HX.out.below hb); have n1_ := Aside0.mk (HRB.out.below hb); have n2_ := Aside0.mk (below_step HB.out hb); have n3_ := Aside0.mk (Nat.le_trans HSZ.out hb.size); have n4_ := Aside0.mk (Kd.R_below G2.out hb); have n5_ := Aside0.mk (Kd.R_below G3.out hb); clear HX HRB HB HSZ G2 G3; have HX := n0_; have HRB := n1_; have HB := n2_; have HSZ := n3_; have G2 := n4_; have G3 := n5_; clear n0_ n1_ n2_ n3_ n4_ n5_; have BK9 := Aside0.mk hn3; clear hb; clear ho3 hn3)
                | (go_at_call 12; refine calls_of_args (args' := #[.pointer (some ⟨gr, 0, none⟩)]) (by first | rfl) ?_; refine (ref_take_some W _ W.heap.size gr x L2 (cap : Int) HRB.out).mono ?_; rintro e wn ⟨F2, f2, F3, f3, rfl, n2, hF2, n3, hF3, hR, hf⟩; have n0_ := Aside0.mk (HX.out.ref HRB.out (hf.wk (fun k hk => Or.inl hk))); have n1_ := Aside0.mk (HB.out.trans (hf.to_below (fun k hk => refD_ge HRB.out k (Or.inl hk)) HB.out.size)); have n2_ := Aside0.mk (Nat.le_trans HSZ.out hf.size); have n3_ := Aside0.mk ((hf.block _ (blk_lt BK9.out) (no30 HRB.out BK9.out)).trans BK9.out); have n4_ := Aside0.mk (R_ref HRB.out G2.out hf); have n5_ := Aside0.mk (R_ref HRB.out G3.out hf); clear HX HB HSZ BK9 G2 G3; have HX := n0_; have HB := n1_; have HSZ := n2_; have BK9 := n3_; have G2 := n4_; have G3 := n5_; clear n0_ n1_ n2_ n3_ n4_ n5_; have HRB' := Aside0.mk hR; have N2 := Aside0.mk n2; have N3 := Aside0.mk n3; have K2 := Aside0.mk hF2; have K3 := Aside0.mk hF3; clear HRB hR hf n2 n3 hF2 hF3; have HRB := HRB'; clear HRB')
                | ((with_reducible refine gate_store (t := 30) (p := 11) (v := .tmp 57) rfl ?_); refine store30 (seg := [.int .i64 x.f0, .string x.f1, .slice F2 x.f2.length f2, .slice F3 x.f3.length f3]) rfl rfl rfl rfl rfl rfl rfl (by simp [Value.oneCell']) (heap_alloc_new _ _) rfl ?_; intro wn ho3 hn3; have hb := only_new ho3; have y0 := (blk_cell hn3 0).trans rfl; have y1 := (blk_cell hn3 1).trans rfl; have y2 := (blk_cell hn3 2).trans rfl; have y3 := (blk_cell hn3 3).trans rfl; simp only [List.getElem?_toArray, List.getElem?_cons_zero, List.getElem?_cons_succ] at y0 y1 y2 y3; have hbk := blk_below BK9.out hb; have z0 := (blk_cell hbk 0).trans rfl; have z1 := (blk_cell hbk 1).trans rfl; have z2 := (blk_cell hbk 2).trans rfl; have z3 := (blk_cell hbk 3).trans rfl; simp only [List.getElem?_toArray, List.getElem?_cons_zero, List.getElem?_cons_succ] at z0 z1 z2 z3; have n0_ := Aside0.mk (HX.out.below hb); have n1_ := Aside0.mk (HRB.out.below hb); have n2_ := Aside0.mk (below_step HB.out hb); have n3_ := Aside0.mk (Nat.le_trans HSZ.out hb.size); have n4_ := Aside0.mk (Kd.R_below G2.out hb); have n5_ := Aside0.mk (Kd.R_below G3.out hb); clear HX HRB HB HSZ G2 G3; have HX := n0_; have HRB := n1_; have HB := n2_; have HSZ := n3_; have G2 := n4_; have G3 := n5_; clear n0_ n1_ n2_ n3_ n4_ n5_; clear hb hbk BK9; clear ho3 hn3)
                | (go_at_call 13; refine calls_of_args (args' := #[.agg #[.int .i64 x.f0, .string x.f1, .slice D2 x.f2.length e2, .slice D3 x.f3.length e3], .agg #[.int .i64 x.f0, .string x.f1, .slice F2 x.f2.length f2, .slice F3 x.f3.length f3]]) (by first | rfl) ?_; refine (switchyardref13_SameMail.calls kl x.f0 x.f1 D2 e2 x.f2 D3 e3 x.f3 x.f0 x.f1 F2 f2 x.f2 F3 f3 x.f3 true _ (Kd.R_reads' G2.out).2.2 M2.out (Kd.R_reads' G3.out).2.2 M3.out (Kd.C_below K2.out HB.out) N2.out (Kd.C_below K3.out HB.out) N3.out HSX.out).mono ?_; rintro e wn ⟨rfl, hb⟩; have n0_ := Aside0.mk (HX.out.below hb); have n1_ := Aside0.mk (HRB.out.below hb); have n2_ := Aside0.mk (Nat.le_trans HSZ.out hb.size); have n3_ := Aside0.mk (below_step HB.out hb); clear HX HRB HSZ HB hb; have HX := n0_; have HRB := n1_; have HSZ := n2_; have HB := n3_; clear n0_ n1_ n2_ n3_))
              obtain ⟨L', hL'⟩ : ∃ L' : List S30, L' = L2 := ⟨_, rfl⟩
              rw [← hL'] at HX HRB
              have HOK' := Aside0.mk (show ∀ x, x ∈ L' → OkM x by rw [hL']; exact fun y hy => HOK.out y (List.mem_cons_of_mem _ hy))
              have HLI' := Aside0.mk (show L'.length ≤ i + 1 by rw [hL']; have := HLI.out; rw [List.length_cons] at this; omega)
              clear hL'
              obtain ⟨vr, hgr, hBg, hsl⟩ := HRB.out
              have hsl0 := hsl
              obtain ⟨A, cr, rfl, _⟩ := hsl0
              have HGR := Aside0.mk hgr
              have HSL := Aside0.mk hsl
              clear hgr hsl HRB
              have hsub : wrap64 ((cap : Int) - (L'.length : Int)) = ((cap - L'.length : Nat) : Int) := by have := HX.out.2.1; have := HX.out.2.2.1; unfold wrap64; omega
              refine start_ (n := 23) (S := fun w' => w'.cell? ⟨gr, 0, none⟩ = some (.slice A L'.length cr) ∧ w'.cell? ⟨gr, 1, none⟩ = some (.int .i64 (cap : Int))) (ds := []) #[false, false, false, false, false, false, false, false, false, false, false, false, false, false, false, false, false, false, false, false, false, false, false] (by kernel_rfl) rfl rfl ⟨(blk_cell HGR.out 0).trans rfl, (blk_cell HGR.out 1).trans rfl⟩ (fun hHeld => ?_)
              refine with_tabW mailPlays.tab24 mailPlays.bits24 (fun HT_ HW_ => ?_)
              have n0_ := Aside0.mk (HX.out.drew)
              have n1_ := Aside0.mk (blk_drew HGR.out)
              have n2_ := Aside0.mk (SL.drew HSL.out)
              have n3_ := Aside0.mk (below_drew1 HB.out)
              have n4_ := Aside0.mk ((show B0 ≤ wn.drew.heap.size from HSZ.out))
              clear HX HGR HSL HB HSZ
              have HX := n0_
              have HGR := n1_
              have HSL := n2_
              have HB := n3_
              have HSZ := n4_
              clear n0_ n1_ n2_ n3_ n4_
              generalize wn.drew = wm at HX HGR HSL HB HSZ hHeld ⊢
              refine pure_ (i := 0) (N := (some 79)) (v := ?_) (a' := ?_) #[true, false, false, false, false, false, false, false, false, false, false, false, false, false, false, false, false, false, false, false, false, false, false] rfl rfl (any_of HT_.out (by kernel_rfl)) (fun _ _ _ h => h) (Or.inl ⟨by rfl, ?_⟩) ?_ ?_
              rotate_left
              · intro w'
                go_simp
                with_reducible rfl
              rotate_left
              · simp only [Act.put, List.setIfInBounds_toArray, List.set_cons_zero, List.set_cons_succ, i64_w, i32_w]
                rfl
              refine pure_ (i := 2) (N := (some 81)) (v := ?_) (a' := ?_) #[true, false, true, false, false, false, false, false, false, false, false, false, false, false, false, false, false, false, false, false, false, false, false] rfl rfl (any_of HT_.out (by kernel_rfl)) (fun _ _ _ h => h) (Or.inl ⟨by rfl, ?_⟩) ?_ ?_
              rotate_left
              · intro w'
                go_simp
                with_reducible rfl
              rotate_left
              · simp only [Act.put, List.setIfInBounds_toArray, List.set_cons_zero, List.set_cons_succ, i64_w, i32_w]
                rfl
              refine pure_ (i := 3) (N := (some 82)) (v := ?_) (a' := ?_) #[true, false, true, true, false, false, false, false, false, false, false, false, false, false, false, false, false, false, false, false, false, false, false] rfl rfl (any_of HT_.out (by kernel_rfl)) (fun _ _ _ h => h) (Or.inl ⟨by rfl, ?_⟩) ?_ ?_
              rotate_left
              · intro w'
                go_simp
                with_reducible rfl
              rotate_left
              · simp only [Act.put, List.setIfInBounds_toArray, List.set_cons_zero, List.set_cons_succ, i64_w, i32_w]
                rfl
              refine pure_ (i := 4) (N := (some 83)) (v := ?_) (a' := ?_) #[true, false, true, true, true, false, false, false, false, false, false, false, false, false, false, false, false, false, false, false, false, false, false] rfl rfl (any_of HT_.out (by kernel_rfl)) (fun _ _ _ h => h) (Or.inl ⟨by rfl, ?_⟩) ?_ ?_
              rotate_left
              · intro w'
                go_simp
                with_reducible rfl
              rotate_left
              · simp only [Act.put, List.setIfInBounds_toArray, List.set_cons_zero, List.set_cons_succ, i64_w, i32_w]
                rfl
              refine take_ (i := 5) (N := (some 84)) (v := ?_) (a' := ?_) #[true, false, true, true, true, true, false, false, false, false, false, false, false, false, false, false, false, false, false, false, false, false, false] rfl rfl (take_ofW HT_.out HW_.out (by kernel_rfl)) (fun _ _ _ h => h) (Or.inl ⟨by rfl, ?_⟩) hHeld ?_ ?_
              rotate_left
              · rintro w' ⟨s0, s1⟩
                go_simp
                with_reducible rfl
              rotate_left
              · simp only [Act.put, List.setIfInBounds_toArray, List.set_cons_zero, List.set_cons_succ, i64_w, i32_w]
                rfl
              refine take_ (i := 6) (N := (some 85)) (v := ?_) (a' := ?_) #[true, false, true, true, true, true, true, false, false, false, false, false, false, false, false, false, false, false, false, false, false, false, false] rfl rfl (take_ofW HT_.out HW_.out (by kernel_rfl)) (fun _ _ _ h => h) (Or.inl ⟨by rfl, ?_⟩) hHeld ?_ ?_
              rotate_left
              · rintro w' ⟨s0, s1⟩
                go_simp
                with_reducible rfl
              rotate_left
              · simp only [Act.put, List.setIfInBounds_toArray, List.set_cons_zero, List.set_cons_succ, i64_w, i32_w]
                rfl
              refine one_ (i := 1) (N := (some 80)) #[true, true, true, true, true, true, true, false, false, false, false, false, false, false, false, false, false, false, false, false, false, false, false] rfl rfl (one_of HT_.out (by kernel_rfl)) (by decide) (fun K hK => ?_)
              refine goes_ Try.func18 (by kernel_rfl) rfl #[.pointer (some ⟨g, 0, none⟩)] (by rfl) rfl rfl (by (try simp only [List.map_toArray, List.map_cons, List.map_nil]); first | done | rfl) ?_
              refine (len_box _ B0 _ g c cap L' HX.out).mono ?_
              rintro e wk ⟨rfl, hb⟩
              refine ⟨_, rfl, ?_⟩
              have n0_ := Aside0.mk (HX.out.below hb)
              have n1_ := Aside0.mk (Nat.le_trans HSZ.out hb.size)
              have n2_ := Aside0.mk (blk_below HGR.out hb)
              have n3_ := Aside0.mk (HSL.out.below hb)
              have n4_ := Aside0.mk (below_step HB.out hb)
              clear HX HSZ HGR HSL HB hb
              have HX := n0_
              have HSZ := n1_
              have HGR := n2_
              have HSL := n3_
              have HB := n4_
              clear n0_ n1_ n2_ n3_ n4_
              refine hK.out _ _ ⟨(blk_cell HGR.out 0).trans rfl, (blk_cell HGR.out 1).trans rfl⟩ (fun hHeld => ?_)
              clear hK K
              refine norm_ (a' := ?_) ?_ ?_
              rotate_left
              · show Act.put _ (some 80) _ = _
                simp only [Act.put, List.setIfInBounds_toArray, List.set_cons_zero, List.set_cons_succ, i64_w, i32_w]
                rfl
              refine pure_ (i := 7) (N := (some 86)) (v := ?_) (a' := ?_) #[true, true, true, true, true, true, true, true, false, false, false, false, false, false, false, false, false, false, false, false, false, false, false] rfl rfl (any_of HT_.out (by kernel_rfl)) (fun _ _ _ h => h) (Or.inl ⟨by rfl, ?_⟩) ?_ ?_
              rotate_left
              · intro w'
                go_simp
                with_reducible rfl
              rotate_left
              · simp only [Act.put, List.setIfInBounds_toArray, List.set_cons_zero, List.set_cons_succ, i64_w, i32_w]
                rfl
              refine pure_ (i := 8) (N := (some 87)) (v := ?_) (a' := ?_) #[true, true, true, true, true, true, true, true, true, false, false, false, false, false, false, false, false, false, false, false, false, false, false] rfl rfl (any_of HT_.out (by kernel_rfl)) (fun _ _ _ h => h) (Or.inl ⟨by rfl, ?_⟩) ?_ ?_
              rotate_left
              · intro w'
                go_simp
                with_reducible rfl
              rotate_left
              · simp only [Act.put, List.setIfInBounds_toArray, List.set_cons_zero, List.set_cons_succ, i64_w, i32_w]
                rfl
              refine pure_ (i := 9) (N := (some 88)) (v := ?_) (a' := ?_) #[true, true, true, true, true, true, true, true, true, true, false, false, false, false, false, false, false, false, false, false, false, false, false] rfl rfl (any_of HT_.out (by kernel_rfl)) (fun _ _ _ h => h) (Or.inl ⟨by rfl, ?_⟩) ?_ ?_
              rotate_left
              · intro w'
                go_simp
                with_reducible rfl
              rotate_left
              · simp only [Act.put, List.setIfInBounds_toArray, List.set_cons_zero, List.set_cons_succ, i64_w, i32_w]
                rfl
              refine pure_ (i := 11) (N := (some 90)) (v := ?_) (a' := ?_) #[true, true, true, true, true, true, true, true, true, true, false, true, false, false, false, false, false, false, false, false, false, false, false] rfl rfl (any_of HT_.out (by kernel_rfl)) (fun _ _ _ h => h) (Or.inl ⟨by rfl, ?_⟩) ?_ ?_
              rotate_left
              · intro w'
                go_simp
                with_reducible rfl
              rotate_left
              · simp only [Act.put, List.setIfInBounds_toArray, List.set_cons_zero, List.set_cons_succ, i64_w, i32_w]
                rfl
              refine pure_ (i := 12) (N := (some 91)) (v := ?_) (a' := ?_) #[true, true, true, true, true, true, true, true, true, true, false, true, true, false, false, false, false, false, false, false, false, false, false] rfl rfl (any_of HT_.out (by kernel_rfl)) (fun _ _ _ h => h) (Or.inl ⟨by rfl, ?_⟩) ?_ ?_
              rotate_left
              · intro w'
                go_simp
                with_reducible rfl
              rotate_left
              · simp only [Act.put, List.setIfInBounds_toArray, List.set_cons_zero, List.set_cons_succ, i64_w, i32_w]
                rfl
              refine pure_ (i := 13) (N := (some 92)) (v := ?_) (a' := ?_) #[true, true, true, true, true, true, true, true, true, true, false, true, true, true, false, false, false, false, false, false, false, false, false] rfl rfl (any_of HT_.out (by kernel_rfl)) (fun _ _ _ h => h) (Or.inl ⟨by rfl, ?_⟩) ?_ ?_
              rotate_left
              · intro w'
                go_simp
                with_reducible rfl
              rotate_left
              · simp only [Act.put, List.setIfInBounds_toArray, List.set_cons_zero, List.set_cons_succ, i64_w, i32_w]
                rfl
              refine take_ (i := 14) (N := (some 93)) (v := ?_) (a' := ?_) #[true, true, true, true, true, true, true, true, true, true, false, true, true, true, true, false, false, false, false, false, false, false, false] rfl rfl (take_ofW HT_.out HW_.out (by kernel_rfl)) (fun _ _ _ h => h) (Or.inl ⟨by rfl, ?_⟩) hHeld ?_ ?_
              rotate_left
              · rintro w' ⟨s0, s1⟩
                go_simp
                with_reducible rfl
              rotate_left
              · simp only [Act.put, List.setIfInBounds_toArray, List.set_cons_zero, List.set_cons_succ, i64_w, i32_w]
                rfl
              refine pure_ (i := 15) (N := (some 94)) (v := ?_) (a' := ?_) #[true, true, true, true, true, true, true, true, true, true, false, true, true, true, true, true, false, false, false, false, false, false, false] rfl rfl (any_of HT_.out (by kernel_rfl)) (fun _ _ _ h => h) (Or.inl ⟨by rfl, ?_⟩) ?_ ?_
              rotate_left
              · intro w'
                go_simp
                with_reducible rfl
              rotate_left
              · simp only [Act.put, List.setIfInBounds_toArray, List.set_cons_zero, List.set_cons_succ, i64_w, i32_w]
                rfl
              refine pure_ (i := 16) (N := (some 95)) (v := ?_) (a' := ?_) #[true, true, true, true, true, true, true, true, true, true, false, true, true, true, true, true, true, false, false, false, false, false, false] rfl rfl (any_of HT_.out (by kernel_rfl)) (fun _ _ _ h => h) (Or.inl ⟨by rfl, ?_⟩) ?_ ?_
              rotate_left
              · intro w'
                go_simp
                with_reducible rfl
              rotate_left
              · simp only [Act.put, List.setIfInBounds_toArray, List.set_cons_zero, List.set_cons_succ, i64_w, i32_w]
                rfl
              refine pure_ (i := 17) (N := (some 96)) (v := ?_) (a' := ?_) #[true, true, true, true, true, true, true, true, true, true, false, true, true, true, true, true, true, true, false, false, false, false, false] rfl rfl (any_of HT_.out (by kernel_rfl)) (fun _ _ _ h => h) (Or.inl ⟨by rfl, ?_⟩) ?_ ?_
              rotate_left
              · intro w'
                go_simp
                with_reducible rfl
              rotate_left
              · simp only [Act.put, List.setIfInBounds_toArray, List.set_cons_zero, List.set_cons_succ, i64_w, i32_w]
                rfl
              refine take_ (i := 18) (N := (some 97)) (v := ?_) (a' := ?_) #[true, true, true, true, true, true, true, true, true, true, false, true, true, true, true, true, true, true, true, false, false, false, false] rfl rfl (take_ofW HT_.out HW_.out (by kernel_rfl)) (fun _ _ _ h => h) (Or.inl ⟨by rfl, ?_⟩) hHeld ?_ ?_
              rotate_left
              · rintro w' ⟨s0, s1⟩
                go_simp
                with_reducible rfl
              rotate_left
              · simp only [Act.put, List.setIfInBounds_toArray, List.set_cons_zero, List.set_cons_succ, i64_w, i32_w]
                rfl
              refine take_ (i := 19) (N := (some 98)) (v := ?_) (a' := ?_) #[true, true, true, true, true, true, true, true, true, true, false, true, true, true, true, true, true, true, true, true, false, false, false] rfl rfl (take_ofW HT_.out HW_.out (by kernel_rfl)) (fun _ _ _ h => h) (Or.inl ⟨by rfl, ?_⟩) hHeld ?_ ?_
              rotate_left
              · rintro w' ⟨s0, s1⟩
                go_simp
                with_reducible rfl
              rotate_left
              · simp only [Act.put, List.setIfInBounds_toArray, List.set_cons_zero, List.set_cons_succ, i64_w, i32_w]
                rfl
              refine pure_ (i := 20) (N := (some 99)) (v := ?_) (a' := ?_) #[true, true, true, true, true, true, true, true, true, true, false, true, true, true, true, true, true, true, true, true, true, false, false] rfl rfl (any_of HT_.out (by kernel_rfl)) (fun _ _ _ h => h) (Or.inl ⟨by rfl, ?_⟩) ?_ ?_
              rotate_left
              · intro w'
                go_simp
                with_reducible rfl
              rotate_left
              · simp only [Act.put, List.setIfInBounds_toArray, List.set_cons_zero, List.set_cons_succ, i64_w, i32_w]
                rfl
              refine one_ (i := 10) (N := (some 89)) #[true, true, true, true, true, true, true, true, true, true, true, true, true, true, true, true, true, true, true, true, true, false, false] rfl rfl (one_of HT_.out (by kernel_rfl)) (by decide) (fun K hK => ?_)
              refine goes_ Try.func19 (by kernel_rfl) rfl #[.pointer (some ⟨g, 0, none⟩)] (by rfl) rfl rfl (by (try simp only [List.map_toArray, List.map_cons, List.map_nil]); first | done | rfl) ?_
              refine (room_box _ B0 _ g c cap L' HX.out).mono ?_
              rintro e wk ⟨rfl, hb⟩
              refine ⟨_, rfl, ?_⟩
              have n0_ := Aside0.mk (HX.out.below hb)
              have n1_ := Aside0.mk (Nat.le_trans HSZ.out hb.size)
              have n2_ := Aside0.mk (blk_below HGR.out hb)
              have n3_ := Aside0.mk (HSL.out.below hb)
              have n4_ := Aside0.mk (below_step HB.out hb)
              clear HX HSZ HGR HSL HB hb
              have HX := n0_
              have HSZ := n1_
              have HGR := n2_
              have HSL := n3_
              have HB := n4_
              clear n0_ n1_ n2_ n3_ n4_
              refine hK.out _ _ ⟨(blk_cell HGR.out 0).trans rfl, (blk_cell HGR.out 1).trans rfl⟩ (fun hHeld => ?_)
              clear hK K
              refine norm_ (a' := ?_) ?_ ?_
              rotate_left
              · show Act.put _ (some 89) _ = _
                simp only [Act.put, List.setIfInBounds_toArray, List.set_cons_zero, List.set_cons_succ, i64_w, i32_w]
                rfl
              refine pure_ (i := 21) (N := (some 100)) (v := ?_) (a' := ?_) #[true, true, true, true, true, true, true, true, true, true, true, true, true, true, true, true, true, true, true, true, true, true, false] rfl rfl (any_of HT_.out (by kernel_rfl)) (fun _ _ _ h => h) (Or.inl ⟨by rfl, ?_⟩) ?_ ?_
              rotate_left
              · intro w'
                go_simp
                with_reducible rfl
              rotate_left
              · simp only [Act.put, List.setIfInBounds_toArray, List.set_cons_zero, List.set_cons_succ, i64_w, i32_w]
                rfl
              refine pure_ (i := 22) (N := (some 101)) (v := ?_) (a' := ?_) #[true, true, true, true, true, true, true, true, true, true, true, true, true, true, true, true, true, true, true, true, true, true, true] rfl rfl (any_of HT_.out (by kernel_rfl)) (fun _ _ _ h => h) (Or.inl ⟨by rfl, ?_⟩) ?_ ?_
              rotate_left
              · intro w'
                go_simp
                with_reducible rfl
              rotate_left
              · simp only [Act.put, List.setIfInBounds_toArray, List.set_cons_zero, List.set_cons_succ, i64_w, i32_w]
                rfl
              refine done_ (done_of HT_.out (by kernel_rfl)) ?_
              go_wp2
              go_roundg (gk - 1)
              case measure => have := HK.out; omega
              case rel => exact ⟨i + 1, L', _, congrArg (Value.int .i64) (Int.natCast_add i 1).symm, ⟨by have := HK.out; omega⟩, ⟨by omega⟩, HX, ⟨⟨_, HGR.out, hBg, HSL.out⟩⟩, HB, HOK', HLI', HSZ⟩
          · obtain ⟨vr, hgr, hBg, hsl⟩ := HRB.out
            have hsl0 := hsl
            obtain ⟨A, cr, rfl, _⟩ := hsl0
            have HGR := Aside0.mk hgr
            have HSL := Aside0.mk hsl
            clear hgr hsl HRB
            refine start_ (n := 8) (S := fun w' => w'.cell? ⟨gr, 0, none⟩ = some (.slice A L.length cr)) (ds := []) #[false, false, false, false, false, false, false, false] (by kernel_rfl) rfl rfl ((blk_cell HGR.out 0).trans rfl) (fun hHeld => ?_)
            refine with_tabW mailPlays.tab22 mailPlays.bits22 (fun HT_ HW_ => ?_)
            have n0_ := Aside0.mk (HX.out.drew)
            have n1_ := Aside0.mk (blk_drew HGR.out)
            have n2_ := Aside0.mk (SL.drew HSL.out)
            have n3_ := Aside0.mk (below_drew1 HB.out)
            have n4_ := Aside0.mk ((show B0 ≤ wn.drew.heap.size from HSZ.out))
            clear HX HGR HSL HB HSZ
            have HX := n0_
            have HGR := n1_
            have HSL := n2_
            have HB := n3_
            have HSZ := n4_
            clear n0_ n1_ n2_ n3_ n4_
            generalize wn.drew = wm at HX HGR HSL HB HSZ hHeld ⊢
            refine pure_ (i := 0) (N := (some 71)) (v := ?_) (a' := ?_) #[true, false, false, false, false, false, false, false] rfl rfl (any_of HT_.out (by kernel_rfl)) (fun _ _ _ h => h) (Or.inl ⟨by rfl, ?_⟩) ?_ ?_
            rotate_left
            · intro w'
              go_simp
              with_reducible rfl
            rotate_left
            · simp only [Act.put, List.setIfInBounds_toArray, List.set_cons_zero, List.set_cons_succ, i64_w, i32_w]
              rfl
            refine pure_ (i := 2) (N := (some 73)) (v := ?_) (a' := ?_) #[true, false, true, false, false, false, false, false] rfl rfl (any_of HT_.out (by kernel_rfl)) (fun _ _ _ h => h) (Or.inl ⟨by rfl, ?_⟩) ?_ ?_
            rotate_left
            · intro w'
              go_simp
              with_reducible rfl
            rotate_left
            · simp only [Act.put, List.setIfInBounds_toArray, List.set_cons_zero, List.set_cons_succ, i64_w, i32_w]
              rfl
            refine pure_ (i := 3) (N := (some 74)) (v := ?_) (a' := ?_) #[true, false, true, true, false, false, false, false] rfl rfl (any_of HT_.out (by kernel_rfl)) (fun _ _ _ h => h) (Or.inl ⟨by rfl, ?_⟩) ?_ ?_
            rotate_left
            · intro w'
              go_simp
              with_reducible rfl
            rotate_left
            · simp only [Act.put, List.setIfInBounds_toArray, List.set_cons_zero, List.set_cons_succ, i64_w, i32_w]
              rfl
            refine pure_ (i := 4) (N := (some 75)) (v := ?_) (a' := ?_) #[true, false, true, true, true, false, false, false] rfl rfl (any_of HT_.out (by kernel_rfl)) (fun _ _ _ h => h) (Or.inl ⟨by rfl, ?_⟩) ?_ ?_
            rotate_left
            · intro w'
              go_simp
              with_reducible rfl
            rotate_left
            · simp only [Act.put, List.setIfInBounds_toArray, List.set_cons_zero, List.set_cons_succ, i64_w, i32_w]
              rfl
            refine take_ (i := 5) (N := (some 76)) (v := ?_) (a' := ?_) #[true, false, true, true, true, true, false, false] rfl rfl (take_ofW HT_.out HW_.out (by kernel_rfl)) (fun _ _ _ h => h) (Or.inl ⟨by rfl, ?_⟩) hHeld ?_ ?_
            rotate_left
            · intro w' s0
              go_simp
              with_reducible rfl
            rotate_left
            · simp only [Act.put, List.setIfInBounds_toArray, List.set_cons_zero, List.set_cons_succ, i64_w, i32_w]
              rfl
            refine one_ (i := 1) (N := (some 72)) #[true, true, true, true, true, true, false, false] rfl rfl (one_of HT_.out (by kernel_rfl)) (by decide) (fun K hK => ?_)
            refine goes_ Try.func15 (by kernel_rfl) rfl #[.pointer (some ⟨g, 0, none⟩)] (by rfl) rfl rfl (by (try simp only [List.map_toArray, List.map_cons, List.map_nil]); first | done | rfl) ?_
            refine (all_box kl _ B0 S g c cap L HX.out (Nat.le_trans HB0.out HSZ.out) HTL.out).mono ?_
            rintro e wk ⟨v8, S8, rfl, hX, hR, hb⟩
            refine ⟨_, rfl, ?_⟩
            obtain ⟨A8, c8, rfl, l8, hC8⟩ := Kd.R_reads hR
            obtain ⟨buf, s, r, hch⟩ := HX.out.chan
            have n0_ := Aside0.mk ((but_cells hch hb gr ⟨_, _, HGR.out⟩).trans HGR.out)
            have n1_ := Aside0.mk (HSL.out.cells (fun k hk _ => by obtain ⟨_, _, cur, hc⟩ := appD_of HSL.out hk; exact but_cells hch hb k ⟨_, _, hc⟩))
            have n2_ := Aside0.mk (HB.out.trans (hb.below (Nat.le_trans HBL.out HX.out.1) HB.out.size))
            have n3_ := Aside0.mk (Nat.le_trans HSZ.out hb.size)
            clear HGR HSL HB HSZ
            have HGR := n0_
            have HSL := n1_
            have HB := n2_
            have HSZ := n3_
            clear n0_ n1_ n2_ n3_
            have HX' := Aside0.mk hX
            clear HX hX hb hch hR
            have HX := HX'
            clear HX'
            have C8 := Aside0.mk hC8
            have L8 := Aside0.mk l8
            clear hC8 l8
            refine hK.out _ _ ((blk_cell HGR.out 0).trans rfl) (fun hHeld => ?_)
            clear hK K
            refine norm_ (a' := ?_) ?_ ?_
            rotate_left
            · show Act.put _ (some 72) _ = _
              simp only [Act.put, List.setIfInBounds_toArray, List.set_cons_zero, List.set_cons_succ, i64_w, i32_w]
              rfl
            refine one_ (i := 6) (N := (some 77)) #[true, true, true, true, true, true, true, false] rfl rfl (one_of HT_.out (by kernel_rfl)) (by decide) (fun K hK => ?_)
            have hrd := HSL.out.reads HB.out (by have := HLI.out; omega)
            refine goes_ Try.func14 (by kernel_rfl) rfl #[.slice A8 L.length c8, .slice A L.length cr] (by rfl) rfl rfl (by (try simp only [List.map_toArray, List.map_cons, List.map_nil]); first | done | rfl) ?_
            refine (switchyardref13_SameBox.calls kl A8 c8 L A cr L true _ C8.out L8.out hrd.1 hrd.2 HSB.out).mono ?_
            rintro e wk ⟨rfl, hb⟩
            refine ⟨_, rfl, ?_⟩
            have n0_ := Aside0.mk (HX.out.below hb)
            have n1_ := Aside0.mk (blk_below HGR.out hb)
            have n2_ := Aside0.mk (HSL.out.below hb)
            have n3_ := Aside0.mk (Nat.le_trans HSZ.out hb.size)
            have n4_ := Aside0.mk (below_step HB.out hb)
            clear HX HGR HSL HSZ HB hb
            have HX := n0_
            have HGR := n1_
            have HSL := n2_
            have HSZ := n3_
            have HB := n4_
            clear n0_ n1_ n2_ n3_ n4_
            refine hK.out _ _ ((blk_cell HGR.out 0).trans rfl) (fun hHeld => ?_)
            clear hK K
            refine norm_ (a' := ?_) ?_ ?_
            rotate_left
            · show Act.put _ (some 77) _ = _
              simp only [Act.put, List.setIfInBounds_toArray, List.set_cons_zero, List.set_cons_succ, i64_w, i32_w]
              rfl
            refine pure_ (i := 7) (N := (some 78)) (v := ?_) (a' := ?_) #[true, true, true, true, true, true, true, true] rfl rfl (any_of HT_.out (by kernel_rfl)) (fun _ _ _ h => h) (Or.inl ⟨by rfl, ?_⟩) ?_ ?_
            rotate_left
            · intro w'
              go_simp
              with_reducible rfl
            rotate_left
            · simp only [Act.put, List.setIfInBounds_toArray, List.set_cons_zero, List.set_cons_succ, i64_w, i32_w]
              rfl
            refine done_ (done_of HT_.out (by kernel_rfl)) ?_
            have HRB : Aside0 (RB W W.heap.size _ gr L (cap : Int)) := ⟨⟨_, HGR.out, hBg, HSL.out⟩⟩
            clear HGR HSL
            go_wp2
            obtain ⟨L', hL'⟩ : ∃ L' : List S30, L' = L := ⟨_, rfl⟩
            rw [← hL'] at HX HRB
            have HOK' := Aside0.mk (show ∀ x, x ∈ L' → OkM x by rw [hL']; exact HOK.out)
            have HLI' := Aside0.mk (show L'.length ≤ i + 1 by rw [hL']; have := HLI.out; omega)
            clear hL'
            obtain ⟨vr, hgr, hBg, hsl⟩ := HRB.out
            have hsl0 := hsl
            obtain ⟨A, cr, rfl, _⟩ := hsl0
            have HGR := Aside0.mk hgr
            have HSL := Aside0.mk hsl
            clear hgr hsl HRB
            have hsub : wrap64 ((cap : Int) - (L'.length : Int)) = ((cap - L'.length : Nat) : Int) := by have := HX.out.2.1; have := HX.out.2.2.1; unfold wrap64; omega
            refine start_ (n := 23) (S := fun w' => w'.cell? ⟨gr, 0, none⟩ = some (.slice A L'.length cr) ∧ w'.cell? ⟨gr, 1, none⟩ = some (.int .i64 (cap : Int))) (ds := []) #[false, false, false, false, false, false, false, false, false, false, false, false, false, false, false, false, false, false, false, false, false, false, false] (by kernel_rfl) rfl rfl ⟨(blk_cell HGR.out 0).trans rfl, (blk_cell HGR.out 1).trans rfl⟩ (fun hHeld => ?_)
            refine with_tabW mailPlays.tab24 mailPlays.bits24 (fun HT_ HW_ => ?_)
            have n0_ := Aside0.mk (HX.out.drew)
            have n1_ := Aside0.mk (blk_drew HGR.out)
            have n2_ := Aside0.mk (SL.drew HSL.out)
            have n3_ := Aside0.mk (below_drew1 HB.out)
            have n4_ := Aside0.mk ((show B0 ≤ wk.drew.heap.size from HSZ.out))
            clear HX HGR HSL HB HSZ
            have HX := n0_
            have HGR := n1_
            have HSL := n2_
            have HB := n3_
            have HSZ := n4_
            clear n0_ n1_ n2_ n3_ n4_
            generalize wk.drew = wm at HX HGR HSL HB HSZ hHeld ⊢
            refine pure_ (i := 0) (N := (some 79)) (v := ?_) (a' := ?_) #[true, false, false, false, false, false, false, false, false, false, false, false, false, false, false, false, false, false, false, false, false, false, false] rfl rfl (any_of HT_.out (by kernel_rfl)) (fun _ _ _ h => h) (Or.inl ⟨by rfl, ?_⟩) ?_ ?_
            rotate_left
            · intro w'
              go_simp
              with_reducible rfl
            rotate_left
            · simp only [Act.put, List.setIfInBounds_toArray, List.set_cons_zero, List.set_cons_succ, i64_w, i32_w]
              rfl
            refine pure_ (i := 2) (N := (some 81)) (v := ?_) (a' := ?_) #[true, false, true, false, false, false, false, false, false, false, false, false, false, false, false, false, false, false, false, false, false, false, false] rfl rfl (any_of HT_.out (by kernel_rfl)) (fun _ _ _ h => h) (Or.inl ⟨by rfl, ?_⟩) ?_ ?_
            rotate_left
            · intro w'
              go_simp
              with_reducible rfl
            rotate_left
            · simp only [Act.put, List.setIfInBounds_toArray, List.set_cons_zero, List.set_cons_succ, i64_w, i32_w]
              rfl
            refine pure_ (i := 3) (N := (some 82)) (v := ?_) (a' := ?_) #[true, false, true, true, false, false, false, false, false, false, false, false, false, false, false, false, false, false, false, false, false, false, false] rfl rfl (any_of HT_.out (by kernel_rfl)) (fun _ _ _ h => h) (Or.inl ⟨by rfl, ?_⟩) ?_ ?_
            rotate_left
            · intro w'
              go_simp
              with_reducible rfl
            rotate_left
            · simp only [Act.put, List.setIfInBounds_toArray, List.set_cons_zero, List.set_cons_succ, i64_w, i32_w]
              rfl
            refine pure_ (i := 4) (N := (some 83)) (v := ?_) (a' := ?_) #[true, false, true, true, true, false, false, false, false, false, false, false, false, false, false, false, false, false, false, false, false, false, false] rfl rfl (any_of HT_.out (by kernel_rfl)) (fun _ _ _ h => h) (Or.inl ⟨by rfl, ?_⟩) ?_ ?_
            rotate_left
            · intro w'
              go_simp
              with_reducible rfl
            rotate_left
            · simp only [Act.put, List.setIfInBounds_toArray, List.set_cons_zero, List.set_cons_succ, i64_w, i32_w]
              rfl
            refine take_ (i := 5) (N := (some 84)) (v := ?_) (a' := ?_) #[true, false, true, true, true, true, false, false, false, false, false, false, false, false, false, false, false, false, false, false, false, false, false] rfl rfl (take_ofW HT_.out HW_.out (by kernel_rfl)) (fun _ _ _ h => h) (Or.inl ⟨by rfl, ?_⟩) hHeld ?_ ?_
            rotate_left
            · rintro w' ⟨s0, s1⟩
              go_simp
              with_reducible rfl
            rotate_left
            · simp only [Act.put, List.setIfInBounds_toArray, List.set_cons_zero, List.set_cons_succ, i64_w, i32_w]
              rfl
            refine take_ (i := 6) (N := (some 85)) (v := ?_) (a' := ?_) #[true, false, true, true, true, true, true, false, false, false, false, false, false, false, false, false, false, false, false, false, false, false, false] rfl rfl (take_ofW HT_.out HW_.out (by kernel_rfl)) (fun _ _ _ h => h) (Or.inl ⟨by rfl, ?_⟩) hHeld ?_ ?_
            rotate_left
            · rintro w' ⟨s0, s1⟩
              go_simp
              with_reducible rfl
            rotate_left
            · simp only [Act.put, List.setIfInBounds_toArray, List.set_cons_zero, List.set_cons_succ, i64_w, i32_w]
              rfl
            refine one_ (i := 1) (N := (some 80)) #[true, true, true, true, true, true, true, false, false, false, false, false, false, false, false, false, false, false, false, false, false, false, false] rfl rfl (one_of HT_.out (by kernel_rfl)) (by decide) (fun K hK => ?_)
            refine goes_ Try.func18 (by kernel_rfl) rfl #[.pointer (some ⟨g, 0, none⟩)] (by rfl) rfl rfl (by (try simp only [List.map_toArray, List.map_cons, List.map_nil]); first | done | rfl) ?_
            refine (len_box _ B0 _ g c cap L' HX.out).mono ?_
            rintro e wk ⟨rfl, hb⟩
            refine ⟨_, rfl, ?_⟩
            have n0_ := Aside0.mk (HX.out.below hb)
            have n1_ := Aside0.mk (Nat.le_trans HSZ.out hb.size)
            have n2_ := Aside0.mk (blk_below HGR.out hb)
            have n3_ := Aside0.mk (HSL.out.below hb)
            have n4_ := Aside0.mk (below_step HB.out hb)
            clear HX HSZ HGR HSL HB hb
            have HX := n0_
            have HSZ := n1_
            have HGR := n2_
            have HSL := n3_
            have HB := n4_
            clear n0_ n1_ n2_ n3_ n4_
            refine hK.out _ _ ⟨(blk_cell HGR.out 0).trans rfl, (blk_cell HGR.out 1).trans rfl⟩ (fun hHeld => ?_)
            clear hK K
            refine norm_ (a' := ?_) ?_ ?_
            rotate_left
            · show Act.put _ (some 80) _ = _
              simp only [Act.put, List.setIfInBounds_toArray, List.set_cons_zero, List.set_cons_succ, i64_w, i32_w]
              rfl
            refine pure_ (i := 7) (N := (some 86)) (v := ?_) (a' := ?_) #[true, true, true, true, true, true, true, true, false, false, false, false, false, false, false, false, false, false, false, false, false, false, false] rfl rfl (any_of HT_.out (by kernel_rfl)) (fun _ _ _ h => h) (Or.inl ⟨by rfl, ?_⟩) ?_ ?_
            rotate_left
            · intro w'
              go_simp
              with_reducible rfl
            rotate_left
            · simp only [Act.put, List.setIfInBounds_toArray, List.set_cons_zero, List.set_cons_succ, i64_w, i32_w]
              rfl
            refine pure_ (i := 8) (N := (some 87)) (v := ?_) (a' := ?_) #[true, true, true, true, true, true, true, true, true, false, false, false, false, false, false, false, false, false, false, false, false, false, false] rfl rfl (any_of HT_.out (by kernel_rfl)) (fun _ _ _ h => h) (Or.inl ⟨by rfl, ?_⟩) ?_ ?_
            rotate_left
            · intro w'
              go_simp
              with_reducible rfl
            rotate_left
            · simp only [Act.put, List.setIfInBounds_toArray, List.set_cons_zero, List.set_cons_succ, i64_w, i32_w]
              rfl
            refine pure_ (i := 9) (N := (some 88)) (v := ?_) (a' := ?_) #[true, true, true, true, true, true, true, true, true, true, false, false, false, false, false, false, false, false, false, false, false, false, false] rfl rfl (any_of HT_.out (by kernel_rfl)) (fun _ _ _ h => h) (Or.inl ⟨by rfl, ?_⟩) ?_ ?_
            rotate_left
            · intro w'
              go_simp
              with_reducible rfl
            rotate_left
            · simp only [Act.put, List.setIfInBounds_toArray, List.set_cons_zero, List.set_cons_succ, i64_w, i32_w]
              rfl
            refine pure_ (i := 11) (N := (some 90)) (v := ?_) (a' := ?_) #[true, true, true, true, true, true, true, true, true, true, false, true, false, false, false, false, false, false, false, false, false, false, false] rfl rfl (any_of HT_.out (by kernel_rfl)) (fun _ _ _ h => h) (Or.inl ⟨by rfl, ?_⟩) ?_ ?_
            rotate_left
            · intro w'
              go_simp
              with_reducible rfl
            rotate_left
            · simp only [Act.put, List.setIfInBounds_toArray, List.set_cons_zero, List.set_cons_succ, i64_w, i32_w]
              rfl
            refine pure_ (i := 12) (N := (some 91)) (v := ?_) (a' := ?_) #[true, true, true, true, true, true, true, true, true, true, false, true, true, false, false, false, false, false, false, false, false, false, false] rfl rfl (any_of HT_.out (by kernel_rfl)) (fun _ _ _ h => h) (Or.inl ⟨by rfl, ?_⟩) ?_ ?_
            rotate_left
            · intro w'
              go_simp
              with_reducible rfl
            rotate_left
            · simp only [Act.put, List.setIfInBounds_toArray, List.set_cons_zero, List.set_cons_succ, i64_w, i32_w]
              rfl
            refine pure_ (i := 13) (N := (some 92)) (v := ?_) (a' := ?_) #[true, true, true, true, true, true, true, true, true, true, false, true, true, true, false, false, false, false, false, false, false, false, false] rfl rfl (any_of HT_.out (by kernel_rfl)) (fun _ _ _ h => h) (Or.inl ⟨by rfl, ?_⟩) ?_ ?_
            rotate_left
            · intro w'
              go_simp
              with_reducible rfl
            rotate_left
            · simp only [Act.put, List.setIfInBounds_toArray, List.set_cons_zero, List.set_cons_succ, i64_w, i32_w]
              rfl
            refine take_ (i := 14) (N := (some 93)) (v := ?_) (a' := ?_) #[true, true, true, true, true, true, true, true, true, true, false, true, true, true, true, false, false, false, false, false, false, false, false] rfl rfl (take_ofW HT_.out HW_.out (by kernel_rfl)) (fun _ _ _ h => h) (Or.inl ⟨by rfl, ?_⟩) hHeld ?_ ?_
            rotate_left
            · rintro w' ⟨s0, s1⟩
              go_simp
              with_reducible rfl
            rotate_left
            · simp only [Act.put, List.setIfInBounds_toArray, List.set_cons_zero, List.set_cons_succ, i64_w, i32_w]
              rfl
            refine pure_ (i := 15) (N := (some 94)) (v := ?_) (a' := ?_) #[true, true, true, true, true, true, true, true, true, true, false, true, true, true, true, true, false, false, false, false, false, false, false] rfl rfl (any_of HT_.out (by kernel_rfl)) (fun _ _ _ h => h) (Or.inl ⟨by rfl, ?_⟩) ?_ ?_
            rotate_left
            · intro w'
              go_simp
              with_reducible rfl
            rotate_left
            · simp only [Act.put, List.setIfInBounds_toArray, List.set_cons_zero, List.set_cons_succ, i64_w, i32_w]
              rfl
            refine pure_ (i := 16) (N := (some 95)) (v := ?_) (a' := ?_) #[true, true, true, true, true, true, true, true, true, true, false, true, true, true, true, true, true, false, false, false, false, false, false] rfl rfl (any_of HT_.out (by kernel_rfl)) (fun _ _ _ h => h) (Or.inl ⟨by rfl, ?_⟩) ?_ ?_
            rotate_left
            · intro w'
              go_simp
              with_reducible rfl
            rotate_left
            · simp only [Act.put, List.setIfInBounds_toArray, List.set_cons_zero, List.set_cons_succ, i64_w, i32_w]
              rfl
            refine pure_ (i := 17) (N := (some 96)) (v := ?_) (a' := ?_) #[true, true, true, true, true, true, true, true, true, true, false, true, true, true, true, true, true, true, false, false, false, false, false] rfl rfl (any_of HT_.out (by kernel_rfl)) (fun _ _ _ h => h) (Or.inl ⟨by rfl, ?_⟩) ?_ ?_
            rotate_left
            · intro w'
              go_simp
              with_reducible rfl
            rotate_left
            · simp only [Act.put, List.setIfInBounds_toArray, List.set_cons_zero, List.set_cons_succ, i64_w, i32_w]
              rfl
            refine take_ (i := 18) (N := (some 97)) (v := ?_) (a' := ?_) #[true, true, true, true, true, true, true, true, true, true, false, true, true, true, true, true, true, true, true, false, false, false, false] rfl rfl (take_ofW HT_.out HW_.out (by kernel_rfl)) (fun _ _ _ h => h) (Or.inl ⟨by rfl, ?_⟩) hHeld ?_ ?_
            rotate_left
            · rintro w' ⟨s0, s1⟩
              go_simp
              with_reducible rfl
            rotate_left
            · simp only [Act.put, List.setIfInBounds_toArray, List.set_cons_zero, List.set_cons_succ, i64_w, i32_w]
              rfl
            refine take_ (i := 19) (N := (some 98)) (v := ?_) (a' := ?_) #[true, true, true, true, true, true, true, true, true, true, false, true, true, true, true, true, true, true, true, true, false, false, false] rfl rfl (take_ofW HT_.out HW_.out (by kernel_rfl)) (fun _ _ _ h => h) (Or.inl ⟨by rfl, ?_⟩) hHeld ?_ ?_
            rotate_left
            · rintro w' ⟨s0, s1⟩
              go_simp
              with_reducible rfl
            rotate_left
            · simp only [Act.put, List.setIfInBounds_toArray, List.set_cons_zero, List.set_cons_succ, i64_w, i32_w]
              rfl
            refine pure_ (i := 20) (N := (some 99)) (v := ?_) (a' := ?_) #[true, true, true, true, true, true, true, true, true, true, false, true, true, true, true, true, true, true, true, true, true, false, false] rfl rfl (any_of HT_.out (by kernel_rfl)) (fun _ _ _ h => h) (Or.inl ⟨by rfl, ?_⟩) ?_ ?_
            rotate_left
            · intro w'
              go_simp
              with_reducible rfl
            rotate_left
            · simp only [Act.put, List.setIfInBounds_toArray, List.set_cons_zero, List.set_cons_succ, i64_w, i32_w]
              rfl
            refine one_ (i := 10) (N := (some 89)) #[true, true, true, true, true, true, true, true, true, true, true, true, true, true, true, true, true, true, true, true, true, false, false] rfl rfl (one_of HT_.out (by kernel_rfl)) (by decide) (fun K hK => ?_)
            refine goes_ Try.func19 (by kernel_rfl) rfl #[.pointer (some ⟨g, 0, none⟩)] (by rfl) rfl rfl (by (try simp only [List.map_toArray, List.map_cons, List.map_nil]); first | done | rfl) ?_
            refine (room_box _ B0 _ g c cap L' HX.out).mono ?_
            rintro e wk ⟨rfl, hb⟩
            refine ⟨_, rfl, ?_⟩
            have n0_ := Aside0.mk (HX.out.below hb)
            have n1_ := Aside0.mk (Nat.le_trans HSZ.out hb.size)
            have n2_ := Aside0.mk (blk_below HGR.out hb)
            have n3_ := Aside0.mk (HSL.out.below hb)
            have n4_ := Aside0.mk (below_step HB.out hb)
            clear HX HSZ HGR HSL HB hb
            have HX := n0_
            have HSZ := n1_
            have HGR := n2_
            have HSL := n3_
            have HB := n4_
            clear n0_ n1_ n2_ n3_ n4_
            refine hK.out _ _ ⟨(blk_cell HGR.out 0).trans rfl, (blk_cell HGR.out 1).trans rfl⟩ (fun hHeld => ?_)
            clear hK K
            refine norm_ (a' := ?_) ?_ ?_
            rotate_left
            · show Act.put _ (some 89) _ = _
              simp only [Act.put, List.setIfInBounds_toArray, List.set_cons_zero, List.set_cons_succ, i64_w, i32_w]
              rfl
            refine pure_ (i := 21) (N := (some 100)) (v := ?_) (a' := ?_) #[true, true, true, true, true, true, true, true, true, true, true, true, true, true, true, true, true, true, true, true, true, true, false] rfl rfl (any_of HT_.out (by kernel_rfl)) (fun _ _ _ h => h) (Or.inl ⟨by rfl, ?_⟩) ?_ ?_
            rotate_left
            · intro w'
              go_simp
              with_reducible rfl
            rotate_left
            · simp only [Act.put, List.setIfInBounds_toArray, List.set_cons_zero, List.set_cons_succ, i64_w, i32_w]
              rfl
            refine pure_ (i := 22) (N := (some 101)) (v := ?_) (a' := ?_) #[true, true, true, true, true, true, true, true, true, true, true, true, true, true, true, true, true, true, true, true, true, true, true] rfl rfl (any_of HT_.out (by kernel_rfl)) (fun _ _ _ h => h) (Or.inl ⟨by rfl, ?_⟩) ?_ ?_
            rotate_left
            · intro w'
              go_simp
              with_reducible rfl
            rotate_left
            · simp only [Act.put, List.setIfInBounds_toArray, List.set_cons_zero, List.set_cons_succ, i64_w, i32_w]
              rfl
            refine done_ (done_of HT_.out (by kernel_rfl)) ?_
            go_wp2
            go_roundg (gk - 1)
            case measure => have := HK.out; omega
            case rel => exact ⟨i + 1, L', _, congrArg (Value.int .i64) (Int.natCast_add i 1).symm, ⟨by have := HK.out; omega⟩, ⟨by omega⟩, HX, ⟨⟨_, HGR.out, hBg, HSL.out⟩⟩, HB, HOK', HLI', HSZ⟩
          · obtain ⟨vr, hgr, hBg, hsl⟩ := HRB.out
            have hsl0 := hsl
            obtain ⟨A, cr, rfl, _⟩ := hsl0
            have HGR := Aside0.mk hgr
            have HSL := Aside0.mk hsl
            clear hgr hsl HRB
            refine start_ (n := 8) (S := fun w' => w'.cell? ⟨gr, 0, none⟩ = some (.slice A L.length cr)) (ds := []) #[false, false, false, false, false, false, false, false] (by kernel_rfl) rfl rfl ((blk_cell HGR.out 0).trans rfl) (fun hHeld => ?_)
            refine with_tabW mailPlays.tab22 mailPlays.bits22 (fun HT_ HW_ => ?_)
            have n0_ := Aside0.mk (HX.out.drew)
            have n1_ := Aside0.mk (blk_drew HGR.out)
            have n2_ := Aside0.mk (SL.drew HSL.out)
            have n3_ := Aside0.mk (below_drew1 HB.out)
            have n4_ := Aside0.mk ((show B0 ≤ wn.drew.heap.size from HSZ.out))
            clear HX HGR HSL HB HSZ
            have HX := n0_
            have HGR := n1_
            have HSL := n2_
            have HB := n3_
            have HSZ := n4_
            clear n0_ n1_ n2_ n3_ n4_
            generalize wn.drew = wm at HX HGR HSL HB HSZ hHeld ⊢
            refine pure_ (i := 0) (N := (some 71)) (v := ?_) (a' := ?_) #[true, false, false, false, false, false, false, false] rfl rfl (any_of HT_.out (by kernel_rfl)) (fun _ _ _ h => h) (Or.inl ⟨by rfl, ?_⟩) ?_ ?_
            rotate_left
            · intro w'
              go_simp
              with_reducible rfl
            rotate_left
            · simp only [Act.put, List.setIfInBounds_toArray, List.set_cons_zero, List.set_cons_succ, i64_w, i32_w]
              rfl
            refine pure_ (i := 2) (N := (some 73)) (v := ?_) (a' := ?_) #[true, false, true, false, false, false, false, false] rfl rfl (any_of HT_.out (by kernel_rfl)) (fun _ _ _ h => h) (Or.inl ⟨by rfl, ?_⟩) ?_ ?_
            rotate_left
            · intro w'
              go_simp
              with_reducible rfl
            rotate_left
            · simp only [Act.put, List.setIfInBounds_toArray, List.set_cons_zero, List.set_cons_succ, i64_w, i32_w]
              rfl
            refine pure_ (i := 3) (N := (some 74)) (v := ?_) (a' := ?_) #[true, false, true, true, false, false, false, false] rfl rfl (any_of HT_.out (by kernel_rfl)) (fun _ _ _ h => h) (Or.inl ⟨by rfl, ?_⟩) ?_ ?_
            rotate_left
            · intro w'
              go_simp
              with_reducible rfl
            rotate_left
            · simp only [Act.put, List.setIfInBounds_toArray, List.set_cons_zero, List.set_cons_succ, i64_w, i32_w]
              rfl
            refine pure_ (i := 4) (N := (some 75)) (v := ?_) (a' := ?_) #[true, false, true, true, true, false, false, false] rfl rfl (any_of HT_.out (by kernel_rfl)) (fun _ _ _ h => h) (Or.inl ⟨by rfl, ?_⟩) ?_ ?_
            rotate_left
            · intro w'
              go_simp
              with_reducible rfl
            rotate_left
            · simp only [Act.put, List.setIfInBounds_toArray, List.set_cons_zero, List.set_cons_succ, i64_w, i32_w]
              rfl
            refine take_ (i := 5) (N := (some 76)) (v := ?_) (a' := ?_) #[true, false, true, true, true, true, false, false] rfl rfl (take_ofW HT_.out HW_.out (by kernel_rfl)) (fun _ _ _ h => h) (Or.inl ⟨by rfl, ?_⟩) hHeld ?_ ?_
            rotate_left
            · intro w' s0
              go_simp
              with_reducible rfl
            rotate_left
            · simp only [Act.put, List.setIfInBounds_toArray, List.set_cons_zero, List.set_cons_succ, i64_w, i32_w]
              rfl
            refine one_ (i := 1) (N := (some 72)) #[true, true, true, true, true, true, false, false] rfl rfl (one_of HT_.out (by kernel_rfl)) (by decide) (fun K hK => ?_)
            refine goes_ Try.func15 (by kernel_rfl) rfl #[.pointer (some ⟨g, 0, none⟩)] (by rfl) rfl rfl (by (try simp only [List.map_toArray, List.map_cons, List.map_nil]); first | done | rfl) ?_
            refine (all_box kl _ B0 S g c cap L HX.out (Nat.le_trans HB0.out HSZ.out) HTL.out).mono ?_
            rintro e wk ⟨v8, S8, rfl, hX, hR, hb⟩
            refine ⟨_, rfl, ?_⟩
            obtain ⟨A8, c8, rfl, l8, hC8⟩ := Kd.R_reads hR
            obtain ⟨buf, s, r, hch⟩ := HX.out.chan
            have n0_ := Aside0.mk ((but_cells hch hb gr ⟨_, _, HGR.out⟩).trans HGR.out)
            have n1_ := Aside0.mk (HSL.out.cells (fun k hk _ => by obtain ⟨_, _, cur, hc⟩ := appD_of HSL.out hk; exact but_cells hch hb k ⟨_, _, hc⟩))
            have n2_ := Aside0.mk (HB.out.trans (hb.below (Nat.le_trans HBL.out HX.out.1) HB.out.size))
            have n3_ := Aside0.mk (Nat.le_trans HSZ.out hb.size)
            clear HGR HSL HB HSZ
            have HGR := n0_
            have HSL := n1_
            have HB := n2_
            have HSZ := n3_
            clear n0_ n1_ n2_ n3_
            have HX' := Aside0.mk hX
            clear HX hX hb hch hR
            have HX := HX'
            clear HX'
            have C8 := Aside0.mk hC8
            have L8 := Aside0.mk l8
            clear hC8 l8
            refine hK.out _ _ ((blk_cell HGR.out 0).trans rfl) (fun hHeld => ?_)
            clear hK K
            refine norm_ (a' := ?_) ?_ ?_
            rotate_left
            · show Act.put _ (some 72) _ = _
              simp only [Act.put, List.setIfInBounds_toArray, List.set_cons_zero, List.set_cons_succ, i64_w, i32_w]
              rfl
            refine one_ (i := 6) (N := (some 77)) #[true, true, true, true, true, true, true, false] rfl rfl (one_of HT_.out (by kernel_rfl)) (by decide) (fun K hK => ?_)
            have hrd := HSL.out.reads HB.out (by have := HLI.out; omega)
            refine goes_ Try.func14 (by kernel_rfl) rfl #[.slice A8 L.length c8, .slice A L.length cr] (by rfl) rfl rfl (by (try simp only [List.map_toArray, List.map_cons, List.map_nil]); first | done | rfl) ?_
            refine (switchyardref13_SameBox.calls kl A8 c8 L A cr L true _ C8.out L8.out hrd.1 hrd.2 HSB.out).mono ?_
            rintro e wk ⟨rfl, hb⟩
            refine ⟨_, rfl, ?_⟩
            have n0_ := Aside0.mk (HX.out.below hb)
            have n1_ := Aside0.mk (blk_below HGR.out hb)
            have n2_ := Aside0.mk (HSL.out.below hb)
            have n3_ := Aside0.mk (Nat.le_trans HSZ.out hb.size)
            have n4_ := Aside0.mk (below_step HB.out hb)
            clear HX HGR HSL HSZ HB hb
            have HX := n0_
            have HGR := n1_
            have HSL := n2_
            have HSZ := n3_
            have HB := n4_
            clear n0_ n1_ n2_ n3_ n4_
            refine hK.out _ _ ((blk_cell HGR.out 0).trans rfl) (fun hHeld => ?_)
            clear hK K
            refine norm_ (a' := ?_) ?_ ?_
            rotate_left
            · show Act.put _ (some 77) _ = _
              simp only [Act.put, List.setIfInBounds_toArray, List.set_cons_zero, List.set_cons_succ, i64_w, i32_w]
              rfl
            refine pure_ (i := 7) (N := (some 78)) (v := ?_) (a' := ?_) #[true, true, true, true, true, true, true, true] rfl rfl (any_of HT_.out (by kernel_rfl)) (fun _ _ _ h => h) (Or.inl ⟨by rfl, ?_⟩) ?_ ?_
            rotate_left
            · intro w'
              go_simp
              with_reducible rfl
            rotate_left
            · simp only [Act.put, List.setIfInBounds_toArray, List.set_cons_zero, List.set_cons_succ, i64_w, i32_w]
              rfl
            refine done_ (done_of HT_.out (by kernel_rfl)) ?_
            have HRB : Aside0 (RB W W.heap.size _ gr L (cap : Int)) := ⟨⟨_, HGR.out, hBg, HSL.out⟩⟩
            clear HGR HSL
            go_wp2
            obtain ⟨L', hL'⟩ : ∃ L' : List S30, L' = L := ⟨_, rfl⟩
            rw [← hL'] at HX HRB
            have HOK' := Aside0.mk (show ∀ x, x ∈ L' → OkM x by rw [hL']; exact HOK.out)
            have HLI' := Aside0.mk (show L'.length ≤ i + 1 by rw [hL']; have := HLI.out; omega)
            clear hL'
            obtain ⟨vr, hgr, hBg, hsl⟩ := HRB.out
            have hsl0 := hsl
            obtain ⟨A, cr, rfl, _⟩ := hsl0
            have HGR := Aside0.mk hgr
            have HSL := Aside0.mk hsl
            clear hgr hsl HRB
            have hsub : wrap64 ((cap : Int) - (L'.length : Int)) = ((cap - L'.length : Nat) : Int) := by have := HX.out.2.1; have := HX.out.2.2.1; unfold wrap64; omega
            refine start_ (n := 23) (S := fun w' => w'.cell? ⟨gr, 0, none⟩ = some (.slice A L'.length cr) ∧ w'.cell? ⟨gr, 1, none⟩ = some (.int .i64 (cap : Int))) (ds := []) #[false, false, false, false, false, false, false, false, false, false, false, false, false, false, false, false, false, false, false, false, false, false, false] (by kernel_rfl) rfl rfl ⟨(blk_cell HGR.out 0).trans rfl, (blk_cell HGR.out 1).trans rfl⟩ (fun hHeld => ?_)
            refine with_tabW mailPlays.tab24 mailPlays.bits24 (fun HT_ HW_ => ?_)
            have n0_ := Aside0.mk (HX.out.drew)
            have n1_ := Aside0.mk (blk_drew HGR.out)
            have n2_ := Aside0.mk (SL.drew HSL.out)
            have n3_ := Aside0.mk (below_drew1 HB.out)
            have n4_ := Aside0.mk ((show B0 ≤ wk.drew.heap.size from HSZ.out))
            clear HX HGR HSL HB HSZ
            have HX := n0_
            have HGR := n1_
            have HSL := n2_
            have HB := n3_
            have HSZ := n4_
            clear n0_ n1_ n2_ n3_ n4_
            generalize wk.drew = wm at HX HGR HSL HB HSZ hHeld ⊢
            refine pure_ (i := 0) (N := (some 79)) (v := ?_) (a' := ?_) #[true, false, false, false, false, false, false, false, false, false, false, false, false, false, false, false, false, false, false, false, false, false, false] rfl rfl (any_of HT_.out (by kernel_rfl)) (fun _ _ _ h => h) (Or.inl ⟨by rfl, ?_⟩) ?_ ?_
            rotate_left
            · intro w'
              go_simp
              with_reducible rfl
            rotate_left
            · simp only [Act.put, List.setIfInBounds_toArray, List.set_cons_zero, List.set_cons_succ, i64_w, i32_w]
              rfl
            refine pure_ (i := 2) (N := (some 81)) (v := ?_) (a' := ?_) #[true, false, true, false, false, false, false, false, false, false, false, false, false, false, false, false, false, false, false, false, false, false, false] rfl rfl (any_of HT_.out (by kernel_rfl)) (fun _ _ _ h => h) (Or.inl ⟨by rfl, ?_⟩) ?_ ?_
            rotate_left
            · intro w'
              go_simp
              with_reducible rfl
            rotate_left
            · simp only [Act.put, List.setIfInBounds_toArray, List.set_cons_zero, List.set_cons_succ, i64_w, i32_w]
              rfl
            refine pure_ (i := 3) (N := (some 82)) (v := ?_) (a' := ?_) #[true, false, true, true, false, false, false, false, false, false, false, false, false, false, false, false, false, false, false, false, false, false, false] rfl rfl (any_of HT_.out (by kernel_rfl)) (fun _ _ _ h => h) (Or.inl ⟨by rfl, ?_⟩) ?_ ?_
            rotate_left
            · intro w'
              go_simp
              with_reducible rfl
            rotate_left
            · simp only [Act.put, List.setIfInBounds_toArray, List.set_cons_zero, List.set_cons_succ, i64_w, i32_w]
              rfl
            refine pure_ (i := 4) (N := (some 83)) (v := ?_) (a' := ?_) #[true, false, true, true, true, false, false, false, false, false, false, false, false, false, false, false, false, false, false, false, false, false, false] rfl rfl (any_of HT_.out (by kernel_rfl)) (fun _ _ _ h => h) (Or.inl ⟨by rfl, ?_⟩) ?_ ?_
            rotate_left
            · intro w'
              go_simp
              with_reducible rfl
            rotate_left
            · simp only [Act.put, List.setIfInBounds_toArray, List.set_cons_zero, List.set_cons_succ, i64_w, i32_w]
              rfl
            refine take_ (i := 5) (N := (some 84)) (v := ?_) (a' := ?_) #[true, false, true, true, true, true, false, false, false, false, false, false, false, false, false, false, false, false, false, false, false, false, false] rfl rfl (take_ofW HT_.out HW_.out (by kernel_rfl)) (fun _ _ _ h => h) (Or.inl ⟨by rfl, ?_⟩) hHeld ?_ ?_
            rotate_left
            · rintro w' ⟨s0, s1⟩
              go_simp
              with_reducible rfl
            rotate_left
            · simp only [Act.put, List.setIfInBounds_toArray, List.set_cons_zero, List.set_cons_succ, i64_w, i32_w]
              rfl
            refine take_ (i := 6) (N := (some 85)) (v := ?_) (a' := ?_) #[true, false, true, true, true, true, true, false, false, false, false, false, false, false, false, false, false, false, false, false, false, false, false] rfl rfl (take_ofW HT_.out HW_.out (by kernel_rfl)) (fun _ _ _ h => h) (Or.inl ⟨by rfl, ?_⟩) hHeld ?_ ?_
            rotate_left
            · rintro w' ⟨s0, s1⟩
              go_simp
              with_reducible rfl
            rotate_left
            · simp only [Act.put, List.setIfInBounds_toArray, List.set_cons_zero, List.set_cons_succ, i64_w, i32_w]
              rfl
            refine one_ (i := 1) (N := (some 80)) #[true, true, true, true, true, true, true, false, false, false, false, false, false, false, false, false, false, false, false, false, false, false, false] rfl rfl (one_of HT_.out (by kernel_rfl)) (by decide) (fun K hK => ?_)
            refine goes_ Try.func18 (by kernel_rfl) rfl #[.pointer (some ⟨g, 0, none⟩)] (by rfl) rfl rfl (by (try simp only [List.map_toArray, List.map_cons, List.map_nil]); first | done | rfl) ?_
            refine (len_box _ B0 _ g c cap L' HX.out).mono ?_
            rintro e wk ⟨rfl, hb⟩
            refine ⟨_, rfl, ?_⟩
            have n0_ := Aside0.mk (HX.out.below hb)
            have n1_ := Aside0.mk (Nat.le_trans HSZ.out hb.size)
            have n2_ := Aside0.mk (blk_below HGR.out hb)
            have n3_ := Aside0.mk (HSL.out.below hb)
            have n4_ := Aside0.mk (below_step HB.out hb)
            clear HX HSZ HGR HSL HB hb
            have HX := n0_
            have HSZ := n1_
            have HGR := n2_
            have HSL := n3_
            have HB := n4_
            clear n0_ n1_ n2_ n3_ n4_
            refine hK.out _ _ ⟨(blk_cell HGR.out 0).trans rfl, (blk_cell HGR.out 1).trans rfl⟩ (fun hHeld => ?_)
            clear hK K
            refine norm_ (a' := ?_) ?_ ?_
            rotate_left
            · show Act.put _ (some 80) _ = _
              simp only [Act.put, List.setIfInBounds_toArray, List.set_cons_zero, List.set_cons_succ, i64_w, i32_w]
              rfl
            refine pure_ (i := 7) (N := (some 86)) (v := ?_) (a' := ?_) #[true, true, true, true, true, true, true, true, false, false, false, false, false, false, false, false, false, false, false, false, false, false, false] rfl rfl (any_of HT_.out (by kernel_rfl)) (fun _ _ _ h => h) (Or.inl ⟨by rfl, ?_⟩) ?_ ?_
            rotate_left
            · intro w'
              go_simp
              with_reducible rfl
            rotate_left
            · simp only [Act.put, List.setIfInBounds_toArray, List.set_cons_zero, List.set_cons_succ, i64_w, i32_w]
              rfl
            refine pure_ (i := 8) (N := (some 87)) (v := ?_) (a' := ?_) #[true, true, true, true, true, true, true, true, true, false, false, false, false, false, false, false, false, false, false, false, false, false, false] rfl rfl (any_of HT_.out (by kernel_rfl)) (fun _ _ _ h => h) (Or.inl ⟨by rfl, ?_⟩) ?_ ?_
            rotate_left
            · intro w'
              go_simp
              with_reducible rfl
            rotate_left
            · simp only [Act.put, List.setIfInBounds_toArray, List.set_cons_zero, List.set_cons_succ, i64_w, i32_w]
              rfl
            refine pure_ (i := 9) (N := (some 88)) (v := ?_) (a' := ?_) #[true, true, true, true, true, true, true, true, true, true, false, false, false, false, false, false, false, false, false, false, false, false, false] rfl rfl (any_of HT_.out (by kernel_rfl)) (fun _ _ _ h => h) (Or.inl ⟨by rfl, ?_⟩) ?_ ?_
            rotate_left
            · intro w'
              go_simp
              with_reducible rfl
            rotate_left
            · simp only [Act.put, List.setIfInBounds_toArray, List.set_cons_zero, List.set_cons_succ, i64_w, i32_w]
              rfl
            refine pure_ (i := 11) (N := (some 90)) (v := ?_) (a' := ?_) #[true, true, true, true, true, true, true, true, true, true, false, true, false, false, false, false, false, false, false, false, false, false, false] rfl rfl (any_of HT_.out (by kernel_rfl)) (fun _ _ _ h => h) (Or.inl ⟨by rfl, ?_⟩) ?_ ?_
            rotate_left
            · intro w'
              go_simp
              with_reducible rfl
            rotate_left
            · simp only [Act.put, List.setIfInBounds_toArray, List.set_cons_zero, List.set_cons_succ, i64_w, i32_w]
              rfl
            refine pure_ (i := 12) (N := (some 91)) (v := ?_) (a' := ?_) #[true, true, true, true, true, true, true, true, true, true, false, true, true, false, false, false, false, false, false, false, false, false, false] rfl rfl (any_of HT_.out (by kernel_rfl)) (fun _ _ _ h => h) (Or.inl ⟨by rfl, ?_⟩) ?_ ?_
            rotate_left
            · intro w'
              go_simp
              with_reducible rfl
            rotate_left
            · simp only [Act.put, List.setIfInBounds_toArray, List.set_cons_zero, List.set_cons_succ, i64_w, i32_w]
              rfl
            refine pure_ (i := 13) (N := (some 92)) (v := ?_) (a' := ?_) #[true, true, true, true, true, true, true, true, true, true, false, true, true, true, false, false, false, false, false, false, false, false, false] rfl rfl (any_of HT_.out (by kernel_rfl)) (fun _ _ _ h => h) (Or.inl ⟨by rfl, ?_⟩) ?_ ?_
            rotate_left
            · intro w'
              go_simp
              with_reducible rfl
            rotate_left
            · simp only [Act.put, List.setIfInBounds_toArray, List.set_cons_zero, List.set_cons_succ, i64_w, i32_w]
              rfl
            refine take_ (i := 14) (N := (some 93)) (v := ?_) (a' := ?_) #[true, true, true, true, true, true, true, true, true, true, false, true, true, true, true, false, false, false, false, false, false, false, false] rfl rfl (take_ofW HT_.out HW_.out (by kernel_rfl)) (fun _ _ _ h => h) (Or.inl ⟨by rfl, ?_⟩) hHeld ?_ ?_
            rotate_left
            · rintro w' ⟨s0, s1⟩
              go_simp
              with_reducible rfl
            rotate_left
            · simp only [Act.put, List.setIfInBounds_toArray, List.set_cons_zero, List.set_cons_succ, i64_w, i32_w]
              rfl
            refine pure_ (i := 15) (N := (some 94)) (v := ?_) (a' := ?_) #[true, true, true, true, true, true, true, true, true, true, false, true, true, true, true, true, false, false, false, false, false, false, false] rfl rfl (any_of HT_.out (by kernel_rfl)) (fun _ _ _ h => h) (Or.inl ⟨by rfl, ?_⟩) ?_ ?_
            rotate_left
            · intro w'
              go_simp
              with_reducible rfl
            rotate_left
            · simp only [Act.put, List.setIfInBounds_toArray, List.set_cons_zero, List.set_cons_succ, i64_w, i32_w]
              rfl
            refine pure_ (i := 16) (N := (some 95)) (v := ?_) (a' := ?_) #[true, true, true, true, true, true, true, true, true, true, false, true, true, true, true, true, true, false, false, false, false, false, false] rfl rfl (any_of HT_.out (by kernel_rfl)) (fun _ _ _ h => h) (Or.inl ⟨by rfl, ?_⟩) ?_ ?_
            rotate_left
            · intro w'
              go_simp
              with_reducible rfl
            rotate_left
            · simp only [Act.put, List.setIfInBounds_toArray, List.set_cons_zero, List.set_cons_succ, i64_w, i32_w]
              rfl
            refine pure_ (i := 17) (N := (some 96)) (v := ?_) (a' := ?_) #[true, true, true, true, true, true, true, true, true, true, false, true, true, true, true, true, true, true, false, false, false, false, false] rfl rfl (any_of HT_.out (by kernel_rfl)) (fun _ _ _ h => h) (Or.inl ⟨by rfl, ?_⟩) ?_ ?_
            rotate_left
            · intro w'
              go_simp
              with_reducible rfl
            rotate_left
            · simp only [Act.put, List.setIfInBounds_toArray, List.set_cons_zero, List.set_cons_succ, i64_w, i32_w]
              rfl
            refine take_ (i := 18) (N := (some 97)) (v := ?_) (a' := ?_) #[true, true, true, true, true, true, true, true, true, true, false, true, true, true, true, true, true, true, true, false, false, false, false] rfl rfl (take_ofW HT_.out HW_.out (by kernel_rfl)) (fun _ _ _ h => h) (Or.inl ⟨by rfl, ?_⟩) hHeld ?_ ?_
            rotate_left
            · rintro w' ⟨s0, s1⟩
              go_simp
              with_reducible rfl
            rotate_left
            · simp only [Act.put, List.setIfInBounds_toArray, List.set_cons_zero, List.set_cons_succ, i64_w, i32_w]
              rfl
            refine take_ (i := 19) (N := (some 98)) (v := ?_) (a' := ?_) #[true, true, true, true, true, true, true, true, true, true, false, true, true, true, true, true, true, true, true, true, false, false, false] rfl rfl (take_ofW HT_.out HW_.out (by kernel_rfl)) (fun _ _ _ h => h) (Or.inl ⟨by rfl, ?_⟩) hHeld ?_ ?_
            rotate_left
            · rintro w' ⟨s0, s1⟩
              go_simp
              with_reducible rfl
            rotate_left
            · simp only [Act.put, List.setIfInBounds_toArray, List.set_cons_zero, List.set_cons_succ, i64_w, i32_w]
              rfl
            refine pure_ (i := 20) (N := (some 99)) (v := ?_) (a' := ?_) #[true, true, true, true, true, true, true, true, true, true, false, true, true, true, true, true, true, true, true, true, true, false, false] rfl rfl (any_of HT_.out (by kernel_rfl)) (fun _ _ _ h => h) (Or.inl ⟨by rfl, ?_⟩) ?_ ?_
            rotate_left
            · intro w'
              go_simp
              with_reducible rfl
            rotate_left
            · simp only [Act.put, List.setIfInBounds_toArray, List.set_cons_zero, List.set_cons_succ, i64_w, i32_w]
              rfl
            refine one_ (i := 10) (N := (some 89)) #[true, true, true, true, true, true, true, true, true, true, true, true, true, true, true, true, true, true, true, true, true, false, false] rfl rfl (one_of HT_.out (by kernel_rfl)) (by decide) (fun K hK => ?_)
            refine goes_ Try.func19 (by kernel_rfl) rfl #[.pointer (some ⟨g, 0, none⟩)] (by rfl) rfl rfl (by (try simp only [List.map_toArray, List.map_cons, List.map_nil]); first | done | rfl) ?_
            refine (room_box _ B0 _ g c cap L' HX.out).mono ?_
            rintro e wk ⟨rfl, hb⟩
            refine ⟨_, rfl, ?_⟩
            have n0_ := Aside0.mk (HX.out.below hb)
            have n1_ := Aside0.mk (Nat.le_trans HSZ.out hb.size)
            have n2_ := Aside0.mk (blk_below HGR.out hb)
            have n3_ := Aside0.mk (HSL.out.below hb)
            have n4_ := Aside0.mk (below_step HB.out hb)
            clear HX HSZ HGR HSL HB hb
            have HX := n0_
            have HSZ := n1_
            have HGR := n2_
            have HSL := n3_
            have HB := n4_
            clear n0_ n1_ n2_ n3_ n4_
            refine hK.out _ _ ⟨(blk_cell HGR.out 0).trans rfl, (blk_cell HGR.out 1).trans rfl⟩ (fun hHeld => ?_)
            clear hK K
            refine norm_ (a' := ?_) ?_ ?_
            rotate_left
            · show Act.put _ (some 89) _ = _
              simp only [Act.put, List.setIfInBounds_toArray, List.set_cons_zero, List.set_cons_succ, i64_w, i32_w]
              rfl
            refine pure_ (i := 21) (N := (some 100)) (v := ?_) (a' := ?_) #[true, true, true, true, true, true, true, true, true, true, true, true, true, true, true, true, true, true, true, true, true, true, false] rfl rfl (any_of HT_.out (by kernel_rfl)) (fun _ _ _ h => h) (Or.inl ⟨by rfl, ?_⟩) ?_ ?_
            rotate_left
            · intro w'
              go_simp
              with_reducible rfl
            rotate_left
            · simp only [Act.put, List.setIfInBounds_toArray, List.set_cons_zero, List.set_cons_succ, i64_w, i32_w]
              rfl
            refine pure_ (i := 22) (N := (some 101)) (v := ?_) (a' := ?_) #[true, true, true, true, true, true, true, true, true, true, true, true, true, true, true, true, true, true, true, true, true, true, true] rfl rfl (any_of HT_.out (by kernel_rfl)) (fun _ _ _ h => h) (Or.inl ⟨by rfl, ?_⟩) ?_ ?_
            rotate_left
            · intro w'
              go_simp
              with_reducible rfl
            rotate_left
            · simp only [Act.put, List.setIfInBounds_toArray, List.set_cons_zero, List.set_cons_succ, i64_w, i32_w]
              rfl
            refine done_ (done_of HT_.out (by kernel_rfl)) ?_
            go_wp2
            go_roundg (gk - 1)
            case measure => have := HK.out; omega
            case rel => exact ⟨i + 1, L', _, congrArg (Value.int .i64) (Int.natCast_add i 1).symm, ⟨by have := HK.out; omega⟩, ⟨by omega⟩, HX, ⟨⟨_, HGR.out, hBg, HSL.out⟩⟩, HB, HOK', HLI', HSZ⟩
          · refine start_ (n := 9) (S := fun w' => w'.cell? ⟨wr.heap.size, 1, none⟩ = some (.int .i64 l1[i].f1.f0) ∧ w'.cell? ⟨wr.heap.size, 2, none⟩ = some (.string l1[i].f1.f1) ∧ w'.cell? ⟨wr.heap.size, 3, none⟩ = some (.slice A2 l1[i].f1.f2.length c2) ∧ w'.cell? ⟨wr.heap.size, 4, none⟩ = some (.slice A3 l1[i].f1.f3.length c3)) (ds := []) #[false, false, false, false, false, false, false, false, false] (by kernel_rfl) rfl rfl ⟨(blk_cell BKA.out 1).trans rfl, (blk_cell BKA.out 2).trans rfl, (blk_cell BKA.out 3).trans rfl, (blk_cell BKA.out 4).trans rfl⟩ (fun hHeld => ?_)
            refine with_tabW mailPlays.tab12 mailPlays.bits12 (fun HT_ HW_ => ?_)
            have n0_ := Aside0.mk (HX.out.drew)
            have n1_ := Aside0.mk (HRB.out.below (below_drew1 (Below.refl _ _)))
            have n2_ := Aside0.mk (below_drew1 HB.out)
            have n3_ := Aside0.mk (blk_drew BKA.out)
            have n4_ := Aside0.mk ((show B0 ≤ wn.drew.heap.size from HSZ.out))
            clear HX HRB HB BKA HSZ
            have HX := n0_
            have HRB := n1_
            have HB := n2_
            have BKA := n3_
            have HSZ := n4_
            clear n0_ n1_ n2_ n3_ n4_
            generalize wn.drew = wm at HX HRB HB BKA HSZ hHeld ⊢
            refine pure_ (i := 0) (N := (some 37)) (v := ?_) (a' := ?_) #[true, false, false, false, false, false, false, false, false] rfl rfl (any_of HT_.out (by kernel_rfl)) (fun _ _ _ h => h) (Or.inl ⟨by rfl, ?_⟩) ?_ ?_
            rotate_left
            · intro w'
              go_simp
              with_reducible rfl
            rotate_left
            · simp only [Act.put, List.setIfInBounds_toArray, List.set_cons_zero, List.set_cons_succ, i64_w, i32_w]
              rfl
            refine pure_ (i := 1) (N := (some 38)) (v := ?_) (a' := ?_) #[true, true, false, false, false, false, false, false, false] rfl rfl (any_of HT_.out (by kernel_rfl)) (fun _ _ _ h => h) (Or.inl ⟨by rfl, ?_⟩) ?_ ?_
            rotate_left
            · intro w'
              go_simp
              with_reducible rfl
            rotate_left
            · simp only [Act.put, List.setIfInBounds_toArray, List.set_cons_zero, List.set_cons_succ, i64_w, i32_w]
              rfl
            refine take_ (i := 2) (N := (some 39)) (v := ?_) (a' := ?_) #[true, true, true, false, false, false, false, false, false] rfl rfl (take_ofW HT_.out HW_.out (by kernel_rfl)) (fun _ _ _ h => h) (Or.inl ⟨by rfl, ?_⟩) hHeld ?_ ?_
            rotate_left
            · rintro w' ⟨s0, s1, s2, s3⟩
              go_simp
              with_reducible rfl
            rotate_left
            · simp only [Act.put, List.setIfInBounds_toArray, List.set_cons_zero, List.set_cons_succ, i64_w, i32_w]
              rfl
            refine pure_ (i := 4) (N := (some 41)) (v := ?_) (a' := ?_) #[true, true, true, false, true, false, false, false, false] rfl rfl (any_of HT_.out (by kernel_rfl)) (fun _ _ _ h => h) (Or.inl ⟨by rfl, ?_⟩) ?_ ?_
            rotate_left
            · intro w'
              go_simp
              with_reducible rfl
            rotate_left
            · simp only [Act.put, List.setIfInBounds_toArray, List.set_cons_zero, List.set_cons_succ, i64_w, i32_w]
              rfl
            refine pure_ (i := 5) (N := (some 42)) (v := ?_) (a' := ?_) #[true, true, true, false, true, true, false, false, false] rfl rfl (any_of HT_.out (by kernel_rfl)) (fun _ _ _ h => h) (Or.inl ⟨by rfl, ?_⟩) ?_ ?_
            rotate_left
            · intro w'
              go_simp
              with_reducible rfl
            rotate_left
            · simp only [Act.put, List.setIfInBounds_toArray, List.set_cons_zero, List.set_cons_succ, i64_w, i32_w]
              rfl
            refine take_ (i := 6) (N := (some 43)) (v := ?_) (a' := ?_) #[true, true, true, false, true, true, true, false, false] rfl rfl (take_ofW HT_.out HW_.out (by kernel_rfl)) (fun _ _ _ h => h) (Or.inl ⟨by rfl, ?_⟩) hHeld ?_ ?_
            rotate_left
            · rintro w' ⟨s0, s1, s2, s3⟩
              go_simp
              with_reducible rfl
            rotate_left
            · simp only [Act.put, List.setIfInBounds_toArray, List.set_cons_zero, List.set_cons_succ, i64_w, i32_w]
              rfl
            refine one_ (i := 3) (N := (some 40)) #[true, true, true, true, true, true, true, false, false] rfl rfl (one_of HT_.out (by kernel_rfl)) (by decide) (fun K hK => ?_)
            refine goes_ Try.func16 (by kernel_rfl) rfl #[.pointer (some ⟨g, 0, none⟩), .agg #[.int .i64 l1[i].f1.f0, .string l1[i].f1.f1, .slice A2 l1[i].f1.f2.length c2, .slice A3 l1[i].f1.f3.length c3]] (by rfl) rfl rfl (by (try simp only [List.map_toArray, List.map_cons, List.map_nil]); first | done | rfl) ?_
            refine (offer kf _ B0 S g c cap L l1[i].f1 A2 A3 c2 c3 (Kd.C_below C2.out HB.out) L2.out (Kd.C_below C3.out HB.out) L3.out HX.out (Nat.le_trans HB0.out HSZ.out) HTW.out).mono ?_
            rintro e wk ⟨rfl, hX, hb⟩
            refine ⟨_, rfl, ?_⟩
            obtain ⟨buf, s, r, hch⟩ := HX.out.chan
            have n0_ := Aside0.mk (HRB.out.but HX.out hb)
            have n1_ := Aside0.mk ((but_cells hch hb _ ⟨_, _, BKA.out⟩).trans BKA.out)
            have n2_ := Aside0.mk (HB.out.trans (hb.below (Nat.le_trans HBL.out HX.out.1) HB.out.size))
            have n3_ := Aside0.mk (Nat.le_trans HSZ.out hb.size)
            clear HRB BKA HB HSZ
            have HRB := n0_
            have BKA := n1_
            have HB := n2_
            have HSZ := n3_
            clear n0_ n1_ n2_ n3_
            have HX' := Aside0.mk hX
            clear HX hX hb hch
            have HX := HX'
            clear HX'
            refine hK.out _ _ ⟨(blk_cell BKA.out 1).trans rfl, (blk_cell BKA.out 2).trans rfl, (blk_cell BKA.out 3).trans rfl, (blk_cell BKA.out 4).trans rfl⟩ (fun hHeld => ?_)
            clear hK K
            refine norm_ (a' := ?_) ?_ ?_
            rotate_left
            · show Act.put _ (some 40) _ = _
              simp only [Act.put, List.setIfInBounds_toArray, List.set_cons_zero, List.set_cons_succ, i64_w, i32_w]
              rfl
            refine one_ (i := 7) (N := (some 44)) #[true, true, true, true, true, true, true, true, false] rfl rfl (one_of HT_.out (by kernel_rfl)) (by decide) (fun K hK => ?_)
            refine goes_ Try.func17 (by kernel_rfl) rfl #[.pointer (some ⟨gr, 0, none⟩), .agg #[.int .i64 l1[i].f1.f0, .string l1[i].f1.f1, .slice A2 l1[i].f1.f2.length c2, .slice A3 l1[i].f1.f3.length c3]] (by rfl) rfl rfl (by (try simp only [List.map_toArray, List.map_cons, List.map_nil]); first | done | rfl) ?_
            refine (ref_offer W _ W.heap.size gr cap L l1[i].f1 A2 A3 c2 c3 HRB.out (by have := HLI.out; omega) L2.out C2.out L3.out C3.out HB.out.size).mono ?_
            rintro e wk ⟨rfl, hR, hf⟩
            refine ⟨_, rfl, ?_⟩
            have n0_ := Aside0.mk (HX.out.ref HRB.out hf)
            have n1_ := Aside0.mk ((hf.block _ (blk_lt BKA.out) (no32 HRB.out BKA.out)).trans BKA.out)
            have n2_ := Aside0.mk (HB.out.trans (hf.to_below (refD_ge HRB.out) HB.out.size))
            have n3_ := Aside0.mk (Nat.le_trans HSZ.out hf.size)
            clear HX BKA HB HSZ
            have HX := n0_
            have BKA := n1_
            have HB := n2_
            have HSZ := n3_
            clear n0_ n1_ n2_ n3_
            have HRB' := Aside0.mk hR
            clear HRB hR hf
            have HRB := HRB'
            clear HRB'
            refine hK.out _ _ ⟨(blk_cell BKA.out 1).trans rfl, (blk_cell BKA.out 2).trans rfl, (blk_cell BKA.out 3).trans rfl, (blk_cell BKA.out 4).trans rfl⟩ (fun hHeld => ?_)
            clear hK K
            refine norm_ (a' := ?_) ?_ ?_
            rotate_left
            · show Act.put _ (some 44) _ = _
              simp only [Act.put, List.setIfInBounds_toArray, List.set_cons_zero, List.set_cons_succ, i64_w, i32_w]
              rfl
            refine pure_ (i := 8) (N := (some 45)) (v := ?_) (a' := ?_) #[true, true, true, true, true, true, true, true, true] rfl rfl (any_of HT_.out (by kernel_rfl)) (fun _ _ _ h => h) (Or.inl ⟨by rfl, ?_⟩) ?_ ?_
            rotate_left
            · intro w'
              go_simp
              with_reducible rfl
            rotate_left
            · simp only [Act.put, List.setIfInBounds_toArray, List.set_cons_zero, List.set_cons_succ, i64_w, i32_w]
              rfl
            refine done_ (done_of HT_.out (by kernel_rfl)) ?_
            go_wp2
            obtain ⟨L', hL'⟩ : ∃ L' : List S30, L' = offered cap L l1[i].f1 := ⟨_, rfl⟩
            rw [← hL'] at HX HRB
            have HOK' := Aside0.mk (show ∀ x, x ∈ L' → OkM x by rw [hL']; exact offered_ok HOK.out HOM.out)
            have HLI' := Aside0.mk (show L'.length ≤ i + 1 by rw [hL']; exact Nat.le_trans (offered_len cap L _) (by have := HLI.out; omega))
            clear hL'
            obtain ⟨vr, hgr, hBg, hsl⟩ := HRB.out
            have hsl0 := hsl
            obtain ⟨A, cr, rfl, _⟩ := hsl0
            have HGR := Aside0.mk hgr
            have HSL := Aside0.mk hsl
            clear hgr hsl HRB
            have hsub : wrap64 ((cap : Int) - (L'.length : Int)) = ((cap - L'.length : Nat) : Int) := by have := HX.out.2.1; have := HX.out.2.2.1; unfold wrap64; omega
            refine start_ (n := 23) (S := fun w' => w'.cell? ⟨gr, 0, none⟩ = some (.slice A L'.length cr) ∧ w'.cell? ⟨gr, 1, none⟩ = some (.int .i64 (cap : Int))) (ds := []) #[false, false, false, false, false, false, false, false, false, false, false, false, false, false, false, false, false, false, false, false, false, false, false] (by kernel_rfl) rfl rfl ⟨(blk_cell HGR.out 0).trans rfl, (blk_cell HGR.out 1).trans rfl⟩ (fun hHeld => ?_)
            refine with_tabW mailPlays.tab24 mailPlays.bits24 (fun HT_ HW_ => ?_)
            have n0_ := Aside0.mk (HX.out.drew)
            have n1_ := Aside0.mk (blk_drew HGR.out)
            have n2_ := Aside0.mk (SL.drew HSL.out)
            have n3_ := Aside0.mk (below_drew1 HB.out)
            have n4_ := Aside0.mk ((show B0 ≤ wk.drew.heap.size from HSZ.out))
            clear HX HGR HSL HB HSZ
            have HX := n0_
            have HGR := n1_
            have HSL := n2_
            have HB := n3_
            have HSZ := n4_
            clear n0_ n1_ n2_ n3_ n4_
            generalize wk.drew = wm at HX HGR HSL HB HSZ hHeld ⊢
            refine pure_ (i := 0) (N := (some 79)) (v := ?_) (a' := ?_) #[true, false, false, false, false, false, false, false, false, false, false, false, false, false, false, false, false, false, false, false, false, false, false] rfl rfl (any_of HT_.out (by kernel_rfl)) (fun _ _ _ h => h) (Or.inl ⟨by rfl, ?_⟩) ?_ ?_
            rotate_left
            · intro w'
              go_simp
              with_reducible rfl
            rotate_left
            · simp only [Act.put, List.setIfInBounds_toArray, List.set_cons_zero, List.set_cons_succ, i64_w, i32_w]
              rfl
            refine pure_ (i := 2) (N := (some 81)) (v := ?_) (a' := ?_) #[true, false, true, false, false, false, false, false, false, false, false, false, false, false, false, false, false, false, false, false, false, false, false] rfl rfl (any_of HT_.out (by kernel_rfl)) (fun _ _ _ h => h) (Or.inl ⟨by rfl, ?_⟩) ?_ ?_
            rotate_left
            · intro w'
              go_simp
              with_reducible rfl
            rotate_left
            · simp only [Act.put, List.setIfInBounds_toArray, List.set_cons_zero, List.set_cons_succ, i64_w, i32_w]
              rfl
            refine pure_ (i := 3) (N := (some 82)) (v := ?_) (a' := ?_) #[true, false, true, true, false, false, false, false, false, false, false, false, false, false, false, false, false, false, false, false, false, false, false] rfl rfl (any_of HT_.out (by kernel_rfl)) (fun _ _ _ h => h) (Or.inl ⟨by rfl, ?_⟩) ?_ ?_
            rotate_left
            · intro w'
              go_simp
              with_reducible rfl
            rotate_left
            · simp only [Act.put, List.setIfInBounds_toArray, List.set_cons_zero, List.set_cons_succ, i64_w, i32_w]
              rfl
            refine pure_ (i := 4) (N := (some 83)) (v := ?_) (a' := ?_) #[true, false, true, true, true, false, false, false, false, false, false, false, false, false, false, false, false, false, false, false, false, false, false] rfl rfl (any_of HT_.out (by kernel_rfl)) (fun _ _ _ h => h) (Or.inl ⟨by rfl, ?_⟩) ?_ ?_
            rotate_left
            · intro w'
              go_simp
              with_reducible rfl
            rotate_left
            · simp only [Act.put, List.setIfInBounds_toArray, List.set_cons_zero, List.set_cons_succ, i64_w, i32_w]
              rfl
            refine take_ (i := 5) (N := (some 84)) (v := ?_) (a' := ?_) #[true, false, true, true, true, true, false, false, false, false, false, false, false, false, false, false, false, false, false, false, false, false, false] rfl rfl (take_ofW HT_.out HW_.out (by kernel_rfl)) (fun _ _ _ h => h) (Or.inl ⟨by rfl, ?_⟩) hHeld ?_ ?_
            rotate_left
            · rintro w' ⟨s0, s1⟩
              go_simp
              with_reducible rfl
            rotate_left
            · simp only [Act.put, List.setIfInBounds_toArray, List.set_cons_zero, List.set_cons_succ, i64_w, i32_w]
              rfl
            refine take_ (i := 6) (N := (some 85)) (v := ?_) (a' := ?_) #[true, false, true, true, true, true, true, false, false, false, false, false, false, false, false, false, false, false, false, false, false, false, false] rfl rfl (take_ofW HT_.out HW_.out (by kernel_rfl)) (fun _ _ _ h => h) (Or.inl ⟨by rfl, ?_⟩) hHeld ?_ ?_
            rotate_left
            · rintro w' ⟨s0, s1⟩
              go_simp
              with_reducible rfl
            rotate_left
            · simp only [Act.put, List.setIfInBounds_toArray, List.set_cons_zero, List.set_cons_succ, i64_w, i32_w]
              rfl
            refine one_ (i := 1) (N := (some 80)) #[true, true, true, true, true, true, true, false, false, false, false, false, false, false, false, false, false, false, false, false, false, false, false] rfl rfl (one_of HT_.out (by kernel_rfl)) (by decide) (fun K hK => ?_)
            refine goes_ Try.func18 (by kernel_rfl) rfl #[.pointer (some ⟨g, 0, none⟩)] (by rfl) rfl rfl (by (try simp only [List.map_toArray, List.map_cons, List.map_nil]); first | done | rfl) ?_
            refine (len_box _ B0 _ g c cap L' HX.out).mono ?_
            rintro e wk ⟨rfl, hb⟩
            refine ⟨_, rfl, ?_⟩
            have n0_ := Aside0.mk (HX.out.below hb)
            have n1_ := Aside0.mk (Nat.le_trans HSZ.out hb.size)
            have n2_ := Aside0.mk (blk_below HGR.out hb)
            have n3_ := Aside0.mk (HSL.out.below hb)
            have n4_ := Aside0.mk (below_step HB.out hb)
            clear HX HSZ HGR HSL HB hb
            have HX := n0_
            have HSZ := n1_
            have HGR := n2_
            have HSL := n3_
            have HB := n4_
            clear n0_ n1_ n2_ n3_ n4_
            refine hK.out _ _ ⟨(blk_cell HGR.out 0).trans rfl, (blk_cell HGR.out 1).trans rfl⟩ (fun hHeld => ?_)
            clear hK K
            refine norm_ (a' := ?_) ?_ ?_
            rotate_left
            · show Act.put _ (some 80) _ = _
              simp only [Act.put, List.setIfInBounds_toArray, List.set_cons_zero, List.set_cons_succ, i64_w, i32_w]
              rfl
            refine pure_ (i := 7) (N := (some 86)) (v := ?_) (a' := ?_) #[true, true, true, true, true, true, true, true, false, false, false, false, false, false, false, false, false, false, false, false, false, false, false] rfl rfl (any_of HT_.out (by kernel_rfl)) (fun _ _ _ h => h) (Or.inl ⟨by rfl, ?_⟩) ?_ ?_
            rotate_left
            · intro w'
              go_simp
              with_reducible rfl
            rotate_left
            · simp only [Act.put, List.setIfInBounds_toArray, List.set_cons_zero, List.set_cons_succ, i64_w, i32_w]
              rfl
            refine pure_ (i := 8) (N := (some 87)) (v := ?_) (a' := ?_) #[true, true, true, true, true, true, true, true, true, false, false, false, false, false, false, false, false, false, false, false, false, false, false] rfl rfl (any_of HT_.out (by kernel_rfl)) (fun _ _ _ h => h) (Or.inl ⟨by rfl, ?_⟩) ?_ ?_
            rotate_left
            · intro w'
              go_simp
              with_reducible rfl
            rotate_left
            · simp only [Act.put, List.setIfInBounds_toArray, List.set_cons_zero, List.set_cons_succ, i64_w, i32_w]
              rfl
            refine pure_ (i := 9) (N := (some 88)) (v := ?_) (a' := ?_) #[true, true, true, true, true, true, true, true, true, true, false, false, false, false, false, false, false, false, false, false, false, false, false] rfl rfl (any_of HT_.out (by kernel_rfl)) (fun _ _ _ h => h) (Or.inl ⟨by rfl, ?_⟩) ?_ ?_
            rotate_left
            · intro w'
              go_simp
              with_reducible rfl
            rotate_left
            · simp only [Act.put, List.setIfInBounds_toArray, List.set_cons_zero, List.set_cons_succ, i64_w, i32_w]
              rfl
            refine pure_ (i := 11) (N := (some 90)) (v := ?_) (a' := ?_) #[true, true, true, true, true, true, true, true, true, true, false, true, false, false, false, false, false, false, false, false, false, false, false] rfl rfl (any_of HT_.out (by kernel_rfl)) (fun _ _ _ h => h) (Or.inl ⟨by rfl, ?_⟩) ?_ ?_
            rotate_left
            · intro w'
              go_simp
              with_reducible rfl
            rotate_left
            · simp only [Act.put, List.setIfInBounds_toArray, List.set_cons_zero, List.set_cons_succ, i64_w, i32_w]
              rfl
            refine pure_ (i := 12) (N := (some 91)) (v := ?_) (a' := ?_) #[true, true, true, true, true, true, true, true, true, true, false, true, true, false, false, false, false, false, false, false, false, false, false] rfl rfl (any_of HT_.out (by kernel_rfl)) (fun _ _ _ h => h) (Or.inl ⟨by rfl, ?_⟩) ?_ ?_
            rotate_left
            · intro w'
              go_simp
              with_reducible rfl
            rotate_left
            · simp only [Act.put, List.setIfInBounds_toArray, List.set_cons_zero, List.set_cons_succ, i64_w, i32_w]
              rfl
            refine pure_ (i := 13) (N := (some 92)) (v := ?_) (a' := ?_) #[true, true, true, true, true, true, true, true, true, true, false, true, true, true, false, false, false, false, false, false, false, false, false] rfl rfl (any_of HT_.out (by kernel_rfl)) (fun _ _ _ h => h) (Or.inl ⟨by rfl, ?_⟩) ?_ ?_
            rotate_left
            · intro w'
              go_simp
              with_reducible rfl
            rotate_left
            · simp only [Act.put, List.setIfInBounds_toArray, List.set_cons_zero, List.set_cons_succ, i64_w, i32_w]
              rfl
            refine take_ (i := 14) (N := (some 93)) (v := ?_) (a' := ?_) #[true, true, true, true, true, true, true, true, true, true, false, true, true, true, true, false, false, false, false, false, false, false, false] rfl rfl (take_ofW HT_.out HW_.out (by kernel_rfl)) (fun _ _ _ h => h) (Or.inl ⟨by rfl, ?_⟩) hHeld ?_ ?_
            rotate_left
            · rintro w' ⟨s0, s1⟩
              go_simp
              with_reducible rfl
            rotate_left
            · simp only [Act.put, List.setIfInBounds_toArray, List.set_cons_zero, List.set_cons_succ, i64_w, i32_w]
              rfl
            refine pure_ (i := 15) (N := (some 94)) (v := ?_) (a' := ?_) #[true, true, true, true, true, true, true, true, true, true, false, true, true, true, true, true, false, false, false, false, false, false, false] rfl rfl (any_of HT_.out (by kernel_rfl)) (fun _ _ _ h => h) (Or.inl ⟨by rfl, ?_⟩) ?_ ?_
            rotate_left
            · intro w'
              go_simp
              with_reducible rfl
            rotate_left
            · simp only [Act.put, List.setIfInBounds_toArray, List.set_cons_zero, List.set_cons_succ, i64_w, i32_w]
              rfl
            refine pure_ (i := 16) (N := (some 95)) (v := ?_) (a' := ?_) #[true, true, true, true, true, true, true, true, true, true, false, true, true, true, true, true, true, false, false, false, false, false, false] rfl rfl (any_of HT_.out (by kernel_rfl)) (fun _ _ _ h => h) (Or.inl ⟨by rfl, ?_⟩) ?_ ?_
            rotate_left
            · intro w'
              go_simp
              with_reducible rfl
            rotate_left
            · simp only [Act.put, List.setIfInBounds_toArray, List.set_cons_zero, List.set_cons_succ, i64_w, i32_w]
              rfl
            refine pure_ (i := 17) (N := (some 96)) (v := ?_) (a' := ?_) #[true, true, true, true, true, true, true, true, true, true, false, true, true, true, true, true, true, true, false, false, false, false, false] rfl rfl (any_of HT_.out (by kernel_rfl)) (fun _ _ _ h => h) (Or.inl ⟨by rfl, ?_⟩) ?_ ?_
            rotate_left
            · intro w'
              go_simp
              with_reducible rfl
            rotate_left
            · simp only [Act.put, List.setIfInBounds_toArray, List.set_cons_zero, List.set_cons_succ, i64_w, i32_w]
              rfl
            refine take_ (i := 18) (N := (some 97)) (v := ?_) (a' := ?_) #[true, true, true, true, true, true, true, true, true, true, false, true, true, true, true, true, true, true, true, false, false, false, false] rfl rfl (take_ofW HT_.out HW_.out (by kernel_rfl)) (fun _ _ _ h => h) (Or.inl ⟨by rfl, ?_⟩) hHeld ?_ ?_
            rotate_left
            · rintro w' ⟨s0, s1⟩
              go_simp
              with_reducible rfl
            rotate_left
            · simp only [Act.put, List.setIfInBounds_toArray, List.set_cons_zero, List.set_cons_succ, i64_w, i32_w]
              rfl
            refine take_ (i := 19) (N := (some 98)) (v := ?_) (a' := ?_) #[true, true, true, true, true, true, true, true, true, true, false, true, true, true, true, true, true, true, true, true, false, false, false] rfl rfl (take_ofW HT_.out HW_.out (by kernel_rfl)) (fun _ _ _ h => h) (Or.inl ⟨by rfl, ?_⟩) hHeld ?_ ?_
            rotate_left
            · rintro w' ⟨s0, s1⟩
              go_simp
              with_reducible rfl
            rotate_left
            · simp only [Act.put, List.setIfInBounds_toArray, List.set_cons_zero, List.set_cons_succ, i64_w, i32_w]
              rfl
            refine pure_ (i := 20) (N := (some 99)) (v := ?_) (a' := ?_) #[true, true, true, true, true, true, true, true, true, true, false, true, true, true, true, true, true, true, true, true, true, false, false] rfl rfl (any_of HT_.out (by kernel_rfl)) (fun _ _ _ h => h) (Or.inl ⟨by rfl, ?_⟩) ?_ ?_
            rotate_left
            · intro w'
              go_simp
              with_reducible rfl
            rotate_left
            · simp only [Act.put, List.setIfInBounds_toArray, List.set_cons_zero, List.set_cons_succ, i64_w, i32_w]
              rfl
            refine one_ (i := 10) (N := (some 89)) #[true, true, true, true, true, true, true, true, true, true, true, true, true, true, true, true, true, true, true, true, true, false, false] rfl rfl (one_of HT_.out (by kernel_rfl)) (by decide) (fun K hK => ?_)
            refine goes_ Try.func19 (by kernel_rfl) rfl #[.pointer (some ⟨g, 0, none⟩)] (by rfl) rfl rfl (by (try simp only [List.map_toArray, List.map_cons, List.map_nil]); first | done | rfl) ?_
            refine (room_box _ B0 _ g c cap L' HX.out).mono ?_
            rintro e wk ⟨rfl, hb⟩
            refine ⟨_, rfl, ?_⟩
            have n0_ := Aside0.mk (HX.out.below hb)
            have n1_ := Aside0.mk (Nat.le_trans HSZ.out hb.size)
            have n2_ := Aside0.mk (blk_below HGR.out hb)
            have n3_ := Aside0.mk (HSL.out.below hb)
            have n4_ := Aside0.mk (below_step HB.out hb)
            clear HX HSZ HGR HSL HB hb
            have HX := n0_
            have HSZ := n1_
            have HGR := n2_
            have HSL := n3_
            have HB := n4_
            clear n0_ n1_ n2_ n3_ n4_
            refine hK.out _ _ ⟨(blk_cell HGR.out 0).trans rfl, (blk_cell HGR.out 1).trans rfl⟩ (fun hHeld => ?_)
            clear hK K
            refine norm_ (a' := ?_) ?_ ?_
            rotate_left
            · show Act.put _ (some 89) _ = _
              simp only [Act.put, List.setIfInBounds_toArray, List.set_cons_zero, List.set_cons_succ, i64_w, i32_w]
              rfl
            refine pure_ (i := 21) (N := (some 100)) (v := ?_) (a' := ?_) #[true, true, true, true, true, true, true, true, true, true, true, true, true, true, true, true, true, true, true, true, true, true, false] rfl rfl (any_of HT_.out (by kernel_rfl)) (fun _ _ _ h => h) (Or.inl ⟨by rfl, ?_⟩) ?_ ?_
            rotate_left
            · intro w'
              go_simp
              with_reducible rfl
            rotate_left
            · simp only [Act.put, List.setIfInBounds_toArray, List.set_cons_zero, List.set_cons_succ, i64_w, i32_w]
              rfl
            refine pure_ (i := 22) (N := (some 101)) (v := ?_) (a' := ?_) #[true, true, true, true, true, true, true, true, true, true, true, true, true, true, true, true, true, true, true, true, true, true, true] rfl rfl (any_of HT_.out (by kernel_rfl)) (fun _ _ _ h => h) (Or.inl ⟨by rfl, ?_⟩) ?_ ?_
            rotate_left
            · intro w'
              go_simp
              with_reducible rfl
            rotate_left
            · simp only [Act.put, List.setIfInBounds_toArray, List.set_cons_zero, List.set_cons_succ, i64_w, i32_w]
              rfl
            refine done_ (done_of HT_.out (by kernel_rfl)) ?_
            go_wp2
            go_roundg (gk - 1)
            case measure => have := HK.out; omega
            case rel => exact ⟨i + 1, L', _, congrArg (Value.int .i64) (Int.natCast_add i 1).symm, ⟨by have := HK.out; omega⟩, ⟨by omega⟩, HX, ⟨⟨_, HGR.out, hBg, HSL.out⟩⟩, HB, HOK', HLI', HSZ⟩
        · have hs' : shortM l1[i].f1 = false := by simpa using hs
          go_wp2_with (first
            | ((with_reducible refine gate_store (t := 32) (p := 8) (v := .tmp 28) rfl ?_); refine store32 (seg := [.int .i64 l1[i].f0, .int .i64 l1[i].f1.f0, .string l1[i].f1.f1, .slice A2 l1[i].f1.f2.length c2, .slice A3 l1[i].f1.f3.length c3]) rfl rfl rfl rfl rfl rfl rfl (by simp [Value.oneCell']) (heap_alloc_new wr _) rfl ?_; intro wn ho3 hn3; have hb := only_new ho3; have y0 := (blk_cell hn3 0).trans rfl; have y1 := (blk_cell hn3 1).trans rfl; have y2 := (blk_cell hn3 2).trans rfl; have y3 := (blk_cell hn3 3).trans rfl; have y4 := (blk_cell hn3 4).trans rfl; simp only [List.getElem?_toArray, List.getElem?_cons_zero, List.getElem?_cons_succ] at y0 y1 y2 y3 y4; have BKA := Aside0.mk hn3; have n0_ := Aside0.mk (HX.out.below hb); have n1_ := Aside0.mk (HRB.out.below hb); have n2_ := Aside0.mk (Nat.le_trans HSZ.out hb.size); have n3_ := Aside0.mk (below_step HB.out hb); clear HX HRB HSZ HB hb; have HX := n0_; have HRB := n1_; have HSZ := n2_; have HB := n3_; clear n0_ n1_ n2_ n3_; clear ho3 hn3)
            | (go_at_call 10; refine calls_of_args (args' := #[.agg #[.int .i64 l1[i].f1.f0, .string l1[i].f1.f1, .slice A2 l1[i].f1.f2.length c2, .slice A3 l1[i].f1.f3.length c3]]) (by first | rfl) ?_; refine (switchyardlaw18_short.calls (l1[i].f1).f0 (l1[i].f1).f1 A2 c2 (l1[i].f1).f2 A3 c3 (l1[i].f1).f3 _ _ (Kd.C_below C2.out HB.out) L2.out (Kd.C_below C3.out HB.out) L3.out (short_is l1[i].f1)).mono ?_; rintro e wn ⟨rfl, hb⟩; clear y0 y1 y2 y3 y4; have n0_ := Aside0.mk (HX.out.below hb); have n1_ := Aside0.mk (HRB.out.below hb); have n2_ := Aside0.mk (Nat.le_trans HSZ.out hb.size); have n3_ := Aside0.mk (below_step HB.out hb); have n4_ := Aside0.mk (blk_below BKA.out hb); clear HX HRB HSZ HB BKA hb; have HX := n0_; have HRB := n1_; have HSZ := n2_; have HB := n3_; have BKA := n4_; clear n0_ n1_ n2_ n3_ n4_; have y0 := (blk_cell BKA.out 0).trans rfl; simp only [List.getElem?_toArray, List.getElem?_cons_zero, List.getElem?_cons_succ] at y0)
            | (go_at_call 7; refine calls_of_args (args' := #[]) (by first | rfl) ?_; refine (awake_calls _).mono ?_; rintro e wn ⟨rfl, hb⟩; have n0_ := Aside0.mk (HX.out.below hb); have n1_ := Aside0.mk (HRB.out.below hb); have n2_ := Aside0.mk (below_step HB.out hb); clear HX HRB HB hb; have HX := n0_; have HRB := n1_; have HB := n2_; clear n0_ n1_ n2_))
          go_ret
          exact ⟨rfl, HB.out⟩
      · have hin : i = l1.length := by have := HI.out; omega
        subst hin
        have cb : decide ((l1.length : Int) < (l1.length : Int)) = false := decide_eq_false (by omega)
        go_wp2
        obtain ⟨vr, hgr, hBg, hsl⟩ := HRB.out
        have hsl0 := hsl
        obtain ⟨A, cr, rfl, _⟩ := hsl0
        have HGR := Aside0.mk hgr
        have HSL := Aside0.mk hsl
        clear hgr hsl HRB
        refine start_ (n := 11) (S := fun w' => w'.cell? ⟨gr, 0, none⟩ = some (.slice A L.length cr)) (ds := []) #[false, false, false, false, false, false, false, false, false, false, false] (by kernel_rfl) rfl rfl ((blk_cell HGR.out 0).trans rfl) (fun hHeld => ?_)
        refine with_tabW mailPlays.tab27 mailPlays.bits27 (fun HT_ HW_ => ?_)
        have n0_ := Aside0.mk (HX.out.drew)
        have n1_ := Aside0.mk (blk_drew HGR.out)
        have n2_ := Aside0.mk (SL.drew HSL.out)
        have n3_ := Aside0.mk (below_drew1 HB.out)
        have n4_ := Aside0.mk ((show B0 ≤ wr.drew.heap.size from HSZ.out))
        clear HX HGR HSL HB HSZ
        have HX := n0_
        have HGR := n1_
        have HSL := n2_
        have HB := n3_
        have HSZ := n4_
        clear n0_ n1_ n2_ n3_ n4_
        generalize wr.drew = wm at HX HGR HSL HB HSZ hHeld ⊢
        refine one_ (i := 0) (N := (some 103)) #[true, false, false, false, false, false, false, false, false, false, false] rfl rfl (one_of HT_.out (by kernel_rfl)) (by decide) (fun K hK => ?_)
        refine goes_ Try.func7 (by kernel_rfl) rfl #[] (by rfl) rfl rfl (by (try simp only [List.map_toArray, List.map_cons, List.map_nil]); first | done | rfl) ?_
        refine (awake_calls _).mono ?_
        rintro e wk ⟨rfl, hb⟩
        refine ⟨_, rfl, ?_⟩
        have n0_ := Aside0.mk (HX.out.below hb)
        have n1_ := Aside0.mk (blk_below HGR.out hb)
        have n2_ := Aside0.mk (HSL.out.below hb)
        have n3_ := Aside0.mk (Nat.le_trans HSZ.out hb.size)
        have n4_ := Aside0.mk (below_step HB.out hb)
        clear HX HGR HSL HSZ HB hb
        have HX := n0_
        have HGR := n1_
        have HSL := n2_
        have HSZ := n3_
        have HB := n4_
        clear n0_ n1_ n2_ n3_ n4_
        refine hK.out _ _ ((blk_cell HGR.out 0).trans rfl) (fun hHeld => ?_)
        clear hK K
        refine norm_ (a' := ?_) ?_ ?_
        rotate_left
        · show Act.put _ (some 103) _ = _
          simp only [Act.put, List.setIfInBounds_toArray, List.set_cons_zero, List.set_cons_succ, i64_w, i32_w]
          rfl
        refine pure_ (i := 1) (N := (some 104)) (v := ?_) (a' := ?_) #[true, true, false, false, false, false, false, false, false, false, false] rfl rfl (any_of HT_.out (by kernel_rfl)) (fun _ _ _ h => h) (Or.inl ⟨by rfl, ?_⟩) ?_ ?_
        rotate_left
        · intro w'
          go_simp
          with_reducible rfl
        rotate_left
        · simp only [Act.put, List.setIfInBounds_toArray, List.set_cons_zero, List.set_cons_succ, i64_w, i32_w]
          rfl
        refine pure_ (i := 2) (N := (some 105)) (v := ?_) (a' := ?_) #[true, true, true, false, false, false, false, false, false, false, false] rfl rfl (any_of HT_.out (by kernel_rfl)) (fun _ _ _ h => h) (Or.inl ⟨by rfl, ?_⟩) ?_ ?_
        rotate_left
        · intro w'
          go_simp
          with_reducible rfl
        rotate_left
        · simp only [Act.put, List.setIfInBounds_toArray, List.set_cons_zero, List.set_cons_succ, i64_w, i32_w]
          rfl
        refine pure_ (i := 4) (N := (some 107)) (v := ?_) (a' := ?_) #[true, true, true, false, true, false, false, false, false, false, false] rfl rfl (any_of HT_.out (by kernel_rfl)) (fun _ _ _ h => h) (Or.inl ⟨by rfl, ?_⟩) ?_ ?_
        rotate_left
        · intro w'
          go_simp
          with_reducible rfl
        rotate_left
        · simp only [Act.put, List.setIfInBounds_toArray, List.set_cons_zero, List.set_cons_succ, i64_w, i32_w]
          rfl
        refine pure_ (i := 5) (N := (some 108)) (v := ?_) (a' := ?_) #[true, true, true, false, true, true, false, false, false, false, false] rfl rfl (any_of HT_.out (by kernel_rfl)) (fun _ _ _ h => h) (Or.inl ⟨by rfl, ?_⟩) ?_ ?_
        rotate_left
        · intro w'
          go_simp
          with_reducible rfl
        rotate_left
        · simp only [Act.put, List.setIfInBounds_toArray, List.set_cons_zero, List.set_cons_succ, i64_w, i32_w]
          rfl
        refine pure_ (i := 6) (N := (some 109)) (v := ?_) (a' := ?_) #[true, true, true, false, true, true, true, false, false, false, false] rfl rfl (any_of HT_.out (by kernel_rfl)) (fun _ _ _ h => h) (Or.inl ⟨by rfl, ?_⟩) ?_ ?_
        rotate_left
        · intro w'
          go_simp
          with_reducible rfl
        rotate_left
        · simp only [Act.put, List.setIfInBounds_toArray, List.set_cons_zero, List.set_cons_succ, i64_w, i32_w]
          rfl
        refine take_ (i := 7) (N := (some 110)) (v := ?_) (a' := ?_) #[true, true, true, false, true, true, true, true, false, false, false] rfl rfl (take_ofW HT_.out HW_.out (by kernel_rfl)) (fun _ _ _ h => h) (Or.inl ⟨by rfl, ?_⟩) hHeld ?_ ?_
        rotate_left
        · intro w' s0
          go_simp
          with_reducible rfl
        rotate_left
        · simp only [Act.put, List.setIfInBounds_toArray, List.set_cons_zero, List.set_cons_succ, i64_w, i32_w]
          rfl
        refine one_ (i := 3) (N := (some 106)) #[true, true, true, true, true, true, true, true, false, false, false] rfl rfl (one_of HT_.out (by kernel_rfl)) (by decide) (fun K hK => ?_)
        refine goes_ Try.func15 (by kernel_rfl) rfl #[.pointer (some ⟨g, 0, none⟩)] (by rfl) rfl rfl (by (try simp only [List.map_toArray, List.map_cons, List.map_nil]); first | done | rfl) ?_
        refine (all_box kl _ B0 S g c cap L HX.out (Nat.le_trans HB0.out HSZ.out) HTL.out).mono ?_
        rintro e wk ⟨v8, S8, rfl, hX, hR, hb⟩
        refine ⟨_, rfl, ?_⟩
        obtain ⟨A8, c8, rfl, l8, hC8⟩ := Kd.R_reads hR
        obtain ⟨buf, s, r, hch⟩ := HX.out.chan
        have n0_ := Aside0.mk ((but_cells hch hb gr ⟨_, _, HGR.out⟩).trans HGR.out)
        have n1_ := Aside0.mk (HSL.out.cells (fun k hk _ => by obtain ⟨_, _, cur, hc⟩ := appD_of HSL.out hk; exact but_cells hch hb k ⟨_, _, hc⟩))
        have n2_ := Aside0.mk (HB.out.trans (hb.below (Nat.le_trans HBL.out HX.out.1) HB.out.size))
        have n3_ := Aside0.mk (Nat.le_trans HSZ.out hb.size)
        clear HGR HSL HB HSZ
        have HGR := n0_
        have HSL := n1_
        have HB := n2_
        have HSZ := n3_
        clear n0_ n1_ n2_ n3_
        have HX' := Aside0.mk hX
        clear HX hX hb hch hR
        have HX := HX'
        clear HX'
        have C8 := Aside0.mk hC8
        have L8 := Aside0.mk l8
        clear hC8 l8
        refine hK.out _ _ ((blk_cell HGR.out 0).trans rfl) (fun hHeld => ?_)
        clear hK K
        refine norm_ (a' := ?_) ?_ ?_
        rotate_left
        · show Act.put _ (some 106) _ = _
          simp only [Act.put, List.setIfInBounds_toArray, List.set_cons_zero, List.set_cons_succ, i64_w, i32_w]
          rfl
        refine one_ (i := 8) (N := (some 111)) #[true, true, true, true, true, true, true, true, true, false, false] rfl rfl (one_of HT_.out (by kernel_rfl)) (by decide) (fun K hK => ?_)
        have hrd := HSL.out.reads HB.out (by have := HLI.out; omega)
        refine goes_ Try.func14 (by kernel_rfl) rfl #[.slice A8 L.length c8, .slice A L.length cr] (by rfl) rfl rfl (by (try simp only [List.map_toArray, List.map_cons, List.map_nil]); first | done | rfl) ?_
        refine (switchyardref13_SameBox.calls kl A8 c8 L A cr L true _ C8.out L8.out hrd.1 hrd.2 HSB.out).mono ?_
        rintro e wk ⟨rfl, hb⟩
        refine ⟨_, rfl, ?_⟩
        have n0_ := Aside0.mk (HX.out.below hb)
        have n1_ := Aside0.mk (blk_below HGR.out hb)
        have n2_ := Aside0.mk (HSL.out.below hb)
        have n3_ := Aside0.mk (Nat.le_trans HSZ.out hb.size)
        have n4_ := Aside0.mk (below_step HB.out hb)
        clear HX HGR HSL HSZ HB hb
        have HX := n0_
        have HGR := n1_
        have HSL := n2_
        have HSZ := n3_
        have HB := n4_
        clear n0_ n1_ n2_ n3_ n4_
        refine hK.out _ _ ((blk_cell HGR.out 0).trans rfl) (fun hHeld => ?_)
        clear hK K
        refine norm_ (a' := ?_) ?_ ?_
        rotate_left
        · show Act.put _ (some 111) _ = _
          simp only [Act.put, List.setIfInBounds_toArray, List.set_cons_zero, List.set_cons_succ, i64_w, i32_w]
          rfl
        refine pure_ (i := 9) (N := (some 112)) (v := ?_) (a' := ?_) #[true, true, true, true, true, true, true, true, true, true, false] rfl rfl (any_of HT_.out (by kernel_rfl)) (fun _ _ _ h => h) (Or.inl ⟨by rfl, ?_⟩) ?_ ?_
        rotate_left
        · intro w'
          go_simp
          with_reducible rfl
        rotate_left
        · simp only [Act.put, List.setIfInBounds_toArray, List.set_cons_zero, List.set_cons_succ, i64_w, i32_w]
          rfl
        refine pure_ (i := 10) (N := (some 4)) (v := ?_) (a' := ?_) #[true, true, true, true, true, true, true, true, true, true, true] rfl rfl (any_of HT_.out (by kernel_rfl)) (fun _ _ _ h => h) (Or.inl ⟨by rfl, ?_⟩) ?_ ?_
        rotate_left
        · intro w'
          go_simp
          with_reducible rfl
        rotate_left
        · simp only [Act.put, List.setIfInBounds_toArray, List.set_cons_zero, List.set_cons_succ, i64_w, i32_w]
          rfl
        refine done_ (done_of HT_.out (by kernel_rfl)) ?_
        go_wp2
        go_ret
        exact ⟨rfl, HB.out⟩
end Go.Proofs.Ythbcekjiljkchaa.XM
namespace Go.Proofs.Ythbcekjiljkchaa.mailPlays
open Go.ChangeShapes Go.WideShapes Go.ChangeAt Go.RowKit
open Go.ChangeMaps (open_string shut_string)
open Go.Proofs.YthbcekjiljkchaaW.PrintWords Go.Proofs.Ythbcekjiljkchaa.Open Go.Proofs.Ythbcekjiljkchaa.XM
set_option linter.unusedVariables false
theorem own : ownKnob Try.prog.godebug = none := by kernel_rfl
theorem laidOut : laidOutB Try.prog = true := by kernel_rfl
set_option maxRecDepth 100000 in
theorem lifted (os : Os) (started : os.Started) (H : Type) (enc : TypeId × Value → H) :
    ReturnsInHanded {} Try.checked os 3 .any (Rows.mailPlaysSpec.pre6 enc Try.prog Try.f3 Rows.mailPlaysRow.domain false) (Rows.mailPlaysSpec.post enc Try.prog Try.f3 false true false false) := by
  refine returnsInHanded_of_change_sized (C := Try.checked) own started (by kernel_rfl) Try.func3
    (ChangeSpec.witness6 (enc := enc) (C := Try.checked) false ⟨#[], #[.int .i64 0, .slice none 0 0], []⟩ 8 (by kernel_rfl) (by kernel_rfl) (by kernel_rfl) (by kernel_rfl)) ?_
  intro W base args ds gs before hval0 hW hcnd hsz0 _
  have hsz : (DataW.weightsEach Try.prog (Try.f3.params.toList ++ Rows.mailPlaysSpec.plain.varTypes Try.prog) (ds ++ gs)).all (· ≤ reachBytes) = true := hsz0
  have hval : ∀ (j : Nat) t v, Try.f3.params[j]? = some t → args[j]? = some v → Value.okWide Try.prog W .any base t v := hval0
  have hW' := hW
  obtain ⟨p, q, hA0, hV, rfl, hfz, hnd⟩ := hW
  have hA : DataW.TrodAll enc Try.prog W 0 (fun _ => true) true Try.f3.params.toList args.toList ds p := hA0
  rw [Try.params3] at hA hval hsz
  obtain ⟨v0, vs0, d0, ds0, p0, q0, hargs, rfl, rfl, h0, r0⟩ := trodAll_cons hA
  obtain ⟨v1, vs1, d1, ds1, p1, q1, rfl, rfl, rfl, h1, r1⟩ := trodAll_cons r0
  obtain ⟨rfl, rfl, rfl⟩ := trodAll_nil r1
  obtain rfl : args = #[v0, v1] := by cases args; simp_all
  obtain ⟨rfl, rfl⟩ := trodVars_none hV
  have k0 := h0
  have lt0 : ∀ x ∈ p0, x.block < W.heap.size := by obtain ⟨m, hm⟩ := k0; exact DataW.trod_lt m _ _ _ hm
  have wt0 := Open.arg_weights hsz (j := 0) (t := 3) (d := d0) rfl rfl
  obtain ⟨a0, rfl, rfl, rfl, w0⟩ := open_int Try.underlying3 (hval 0 3 v0 rfl rfl) h0
  have k1 := h1
  have lt1 : ∀ x ∈ p1, x.block < W.heap.size := by obtain ⟨m, hm⟩ := k1; exact DataW.trod_lt m _ _ _ hm
  have wt1 := Open.arg_weights hsz (j := 1) (t := 22) (d := d1) rfl rfl
  obtain ⟨l1, hK1, hG1⟩ := Opens.arg (k := (Kd.slice 32 k32)) (fun _ => (opens_slice' Try.underlying22 (by kernel_rfl) (fun _ _ => (opens_k32 _)))) h1 wt1
  obtain ⟨b1, len1, cap1, rfl⟩ := okWide_slice Try.underlying22 (hval 1 22 v1 rfl rfl)
  obtain ⟨A1, c1, he1, hc1, hC1⟩ := hK1
  simp only [Value.cells] at he1
  injection he1 with he1 _
  injection he1 with e11 e21 e31
  subst e11 e21 e31
  clear hA0 hval0 hsz0 hsz
  refine (mailPlays_walk a0 b1 cap1 l1 W w0 hC1 hc1 hG1).mono fun e W' ⟨he, bel⟩ => ?_
  subst he
  exact ⟨_, rfl, _, _, _, [], _, [], hW', trodAll_mk1 (shut_bool Try.underlying4 _), (trodAll_cons_mk (Below.trod laidOut (by kernel_rfl) (of_decide_eq_true (by kernel_rfl)) k0 bel lt0) (trodAll_cons_mk (Below.trod laidOut (by kernel_rfl) (of_decide_eq_true (by kernel_rfl)) k1 bel lt1) trodAll_mk0)), rfl, bel.frame _, fun h => by cases h⟩
theorem over : Rows.mailPlaysRow.holds Try.pinned (OpenSpec.ofChange Rows.mailPlaysSpec) :=
  OpenClaim.holds_of_wide 3 Try.f3 rfl rfl rfl rfl rfl rfl rfl ⟨rfl, rfl, rfl, rfl, rfl⟩ rfl rfl rfl rfl rfl (by kernel_rfl) Try.func3 (by kernel_rfl)
    (of_decide_eq_true (by kernel_rfl)) (by unfold Func.isWrapper; first | (rw [if_pos (by decide +kernel)]; kernel_rfl) | (rw [if_neg (by decide +kernel)]; exact ⟨rfl, rfl⟩))
    (fun os started H enc _ => lifted os started H enc)
theorem proved : Rows.MailPlaysSaid := over
end Go.Proofs.Ythbcekjiljkchaa.mailPlays
namespace Go.Proofs.Ythbcekjiljkchaa
/-- The row, under a short name, for the claim. -/
theorem mailPlays_holds : Rows.MailPlaysSaid := mailPlays.proved
end Go.Proofs.Ythbcekjiljkchaa
