/- slices.Insert at []int64, of one number: one contract for the three roads, over a row of the caller's own. Conditions: those that each statement names. -/
import Derived.Test.YtmbojmmboolagaaIns
import Derived.Test.YtmbojmmboolagaaWMore
namespace Go.Proofs.Ytmbojmmboolagaa.XS
open Go.RowKit Go.Lib Go.Proofs.YtmbojmmboolagaaW.PrintWords Go.Proofs.YtmbojmmboolagaaW.PrintLast Go.Proofs.YtmbojmmboolagaaW.PrintMore
set_option linter.unusedVariables false
set_option linter.unusedSimpArgs false
theorem one_C {w : World} {vb : Nat} {x : Int} (hv : w.heap[vb]? = some (.cells #[.int .i64 x] 2 (0, 0))) : Kd.C (Kd.int .i64) w (some ⟨vb, 0, none⟩) 1 [x] := by
  refine Kd.C_of_reads (d := (0 : Int)) ⟨rfl, by decide, fun _ => ⟨_, rfl, fun j hj => ?_⟩⟩
  have h0 : j = 0 := by simp at hj; omega
  subst h0
  rw [Go.WideShapes.add_plain, blk_cell hv]
  rfl
set_option maxHeartbeats 1600000 in
theorem ins_end (W : World) (base : Nat) (hbase : base ≤ W.heap.size) (l : List Int) (x : Int) (hl : l.length ≤ 1000000) (A : Option Addr) (c vb : Nat) (hc : l.length ≤ c) (hs : Kd.R (Kd.int .i64) 2 W base (fun k => k ≠ vb) (.slice A l.length c) l) (hv : W.heap[vb]? = some (.cells #[.int .i64 x] 2 (0, 0))) :
    Calls Try.prog 19 #[.slice A l.length c, .int .i64 (l.length : Int), .slice (some ⟨vb, 0, none⟩) 1 1] W fun e w' => ∃ v', e = .returned v' ∧ Kd.R (Kd.int .i64) 2 w' base (fun _ => True) v' (l ++ [x]) ∧ Below base W w' := by
  have HS := Aside0.mk hs
  have HV := Aside0.mk hv
  have HC := Aside0.mk (one_C hv)
  have hvb := blk_lt hv
  clear hs hv
  go_enter Try.func19, Try.ntmps19
  cases A with
  | none =>
    have hn : l = [] := by
      obtain ⟨inner, ho⟩ := Kd.R_own HS.out
      rcases ho.2 with ⟨_, hn⟩ | ⟨g, cap, cur, hv, _⟩
      · exact List.length_eq_zero_iff.1 hn
      · injection hv with hv _ _; cases hv
    subst hn
    simp only [List.length_nil] at *
    have hc0 : c = 0 := by
      obtain ⟨inner, ho⟩ := Kd.R_own HS.out
      rcases ho.2 with ⟨hv, _⟩ | ⟨g, cap, cur, hv, _⟩
      · injection hv with _ _ hv
      · injection hv with hv _ _; cases hv
    subst hc0
    go_wp2_with (at_builtin; refine Kd.R_append_row (Value.int .i64) 0 (h1 := fun _ => rfl) (w0 := W) base rfl (.tmp 23) (.tmp 24) 30 2 (.int .i64 0) 8 rfl Try.underlying30 insInfo2 rfl (by decide) (.slice none 0 0) [] [x] (some ⟨vb, 0, none⟩) 1 1 (fun k => k ≠ vb) rfl rfl (fun k hk => by omega) HS.out HC.out (Below.refl _ _) hbase (by simp) ?_)
    intro v1 w1 hR hB hg hat
    have HR1 := Aside0.mk hR
    have HB1 := Aside0.mk hB
    clear hR hB hg hat
    go_wp2
    go_ret
    exact ⟨_, rfl, Kd.R_mono HR1.out (fun _ _ => trivial), HB1.out⟩
  | some ad =>
    obtain ⟨g, rfl⟩ : ∃ g, ad = ⟨g, 0, none⟩ := by
      obtain ⟨inner, ho⟩ := Kd.R_own HS.out
      rcases ho.2 with ⟨hv, _⟩ | ⟨g, cap, cur, hv, _⟩
      · injection hv with hv _ _; cases hv
      · injection hv with hv _ _; injection hv with hv; exact ⟨g, hv⟩
    have p1 : (l.length : Int) ≤ (c : Int) := by omega
    by_cases hcn : c = l.length
    · subst hcn
      go_wp2_with (at_builtin; refine Kd.R_append_row (Value.int .i64) 0 (h1 := fun _ => rfl) (w0 := W) base rfl (.tmp 23) (.tmp 24) 30 2 (.int .i64 0) 8 rfl Try.underlying30 insInfo2 rfl (by decide) (.slice (some ⟨g, 0, none⟩) l.length l.length) l [x] (some ⟨vb, 0, none⟩) 1 1 (fun k => k ≠ vb) rfl rfl (fun k hk => by omega) HS.out HC.out (Below.refl _ _) hbase (by omega) ?_)
      intro v1 w1 hR hB hg hat
      have HR1 := Aside0.mk hR
      have HB1 := Aside0.mk hB
      clear hR hB hg hat
      go_wp2
      go_ret
      exact ⟨_, rfl, Kd.R_mono HR1.out (fun _ _ => trivial), HB1.out⟩
    · go_wp2_with (at_builtin; refine Kd.R_append_row (Value.int .i64) 0 (h1 := fun _ => rfl) (w0 := W) base rfl (.tmp 23) (.tmp 24) 30 2 (.int .i64 0) 8 rfl Try.underlying30 insInfo2 rfl (by decide) (.slice (some ⟨g, 0, none⟩) l.length c) l [x] (some ⟨vb, 0, none⟩) 1 1 (fun k => k ≠ vb) rfl rfl (fun k hk => by omega) HS.out HC.out (Below.refl _ _) hbase (by omega) ?_)
      intro v1 w1 hR hB hg hat
      have HR1 := Aside0.mk hR
      have HB1 := Aside0.mk hB
      clear hR hB hg hat
      go_wp2
      go_ret
      exact ⟨_, rfl, Kd.R_mono HR1.out (fun _ _ => trivial), HB1.out⟩
theorem below_setCells {B : Nat} {w w1 : World} (h : Below B w w1) {g o : Nat} {vs : List Value} (hg : B ≤ g) : Below B w (w1.setCells g o vs) := by
  obtain ⟨h1, h2, h3, h4⟩ := setCells_same g vs o w1
  exact ⟨h1.trans h.os, h2.trans h.tape, h3.trans h.output, by rw [h4]; exact h.size, fun k hk => (setCells_far vs o k (by omega)).trans (h.block k hk)⟩
def ints (l : List Int) : List Value := l.map (Value.int .i64)
theorem ins_list {n i : Nat} {cur0 cur1 cur2 : List Value} {cs : List Value} {X : Value} (hi : i < n) (hcs : cs.length = n) (h0 : cur0.take i = cs.take i) (hl0 : i + 1 ≤ cur0.length) (h1 : cur1 = cur0.take (i + 1) ++ cs.drop i ++ cur0.drop (i + 1 + (cs.drop i).length)) (h2 : cur2 = cur1.take i ++ [X] ++ cur1.drop (i + 1)) : cur2.take (n + 1) = cs.take i ++ X :: cs.drop i := by
  have e1 : cur1.take i = cs.take i := by
    rw [h1, List.append_assoc, List.take_append_of_le_length (by rw [List.length_take]; omega), List.take_take, Nat.min_eq_left (by omega), h0]
  have e2 : cur1.drop (i + 1) = cs.drop i ++ cur0.drop (i + 1 + (cs.drop i).length) := by
    rw [h1, List.append_assoc, List.drop_append_of_le_length (by rw [List.length_take]; omega), List.drop_eq_nil_of_le (by rw [List.length_take]; omega), List.nil_append]
  rw [h2, e1, e2, ← List.append_assoc, List.take_append_of_le_length (by simp; omega), List.take_of_length_le (by simp; omega)]
  simp
theorem ins_list2 {n i : Nat} {cur0 cur1 cur2 : List Value} {cs : List Value} {X : Value} (hi : i < n) (hcs : cs.length = n) (h0 : cur0.take i = cs.take i) (hl0 : i + 1 ≤ cur0.length) (h1 : cur1 = cur0.take i ++ [X] ++ cur0.drop (i + [X].length)) (h2 : cur2 = cur1.take (i + 1) ++ cs.drop i ++ cur1.drop (i + 1 + (cs.drop i).length)) : cur2.take (n + 1) = cs.take i ++ X :: cs.drop i := by
  have e1 : cur1.take (i + 1) = cs.take i ++ [X] := by
    rw [h1, h0, List.take_append_of_le_length (by simp; omega), List.take_of_length_le (by simp; omega)]
  rw [h2, e1, List.take_append_of_le_length (by simp; omega), List.take_of_length_le (by simp; omega)]
  simp
theorem ints_ins (l : List Int) (x : Int) (i : Nat) : encs (Value.int .i64) (l.take i ++ x :: l.drop i) = (ints l).take i ++ Value.int .i64 x :: (ints l).drop i := by
  unfold encs ints
  rw [List.map_append, List.map_cons, List.map_take, List.map_drop]
theorem ins_mid (W : World) (base : Nat) (hbase : base ≤ W.heap.size) (l : List Int) (x : Int) (i : Nat) (hi : i < l.length) (hl : l.length ≤ 1000000) (A : Option Addr) (c vb : Nat) (hc : l.length ≤ c) (hs : Kd.R (Kd.int .i64) 2 W base (fun k => k ≠ vb) (.slice A l.length c) l) (hv : W.heap[vb]? = some (.cells #[.int .i64 x] 2 (0, 0))) :
    Calls Try.prog 19 #[.slice A l.length c, .int .i64 (i : Int), .slice (some ⟨vb, 0, none⟩) 1 1] W fun e w' => ∃ v', e = .returned v' ∧ Kd.R (Kd.int .i64) 2 w' base (fun _ => True) v' (l.take i ++ x :: l.drop i) ∧ Below base W w' := by
  have ho := Kd.own_of_R hs
  have hok := hs.1
  rcases ho.2 with ⟨_, hn⟩ | ⟨g, cap, cur, hve, hg, hh, hnc, hcm, hsz, htk⟩
  · omega
  injection hve with hA _ hcap
  subst hA
  subst hcap
  simp only [Nat.mul_one] at hsz htk
  have hgv : g ≠ vb := hok g (by simp [Value.ownBlock])
  have hcs0 : ints l = cur.toList.take l.length := htk.symm
  have hcl : (ints l).length = l.length := by simp [ints]
  have hget : ∀ j v, (ints l)[j]? = some v → cur[j]? = some v := fun j v hj => by
    rw [hcs0, List.getElem?_take] at hj
    split at hj
    · simpa using hj
    · cases hj
  have hcs : ∀ j v, (ints l)[j]? = some v → W.cell? ⟨g, 0 + j, none⟩ = some v := fun j v hj => by
    rw [Nat.zero_add, blk_cell hh]; exact hget j v hj
  have hvs : ∀ j v, ([Value.int .i64 x] : List Value)[j]? = some v → W.cell? ⟨vb, 0 + j, none⟩ = some v := fun j v hj => by
    rw [Nat.zero_add, blk_cell hv]; simpa using hj
  have h1c : ∀ v ∈ ints l, v.oneCell' = true := fun v hv => by
    obtain ⟨y, _, rfl⟩ := List.mem_map.1 hv; rfl
  have h1v : ∀ v ∈ ([Value.int .i64 x] : List Value), v.oneCell' = true := fun v hv => by
    rw [List.mem_singleton.1 hv]; rfl
  have hdl : ((ints l).drop i).length = l.length - i := by rw [List.length_drop, hcl]
  have hlen : (l.take i ++ x :: l.drop i).length = l.length + 1 := by simp; omega
  have h0 : cur.toList.take i = (ints l).take i := by rw [hcs0, List.take_take, Nat.min_eq_left (by omega)]
  by_cases hroom : l.length + 1 ≤ c
  · refine (ins_shift g 0 l.length c i vb 0 1 1 (ints l) [Value.int .i64 x] W hi (by omega) hroom (by unfold maxLen at hcm; omega) (fun h => hgv h.symm) hcl rfl hcs (fun j hj => ?_) (fun j hj => blk_frozen hh _) hvs h1c h1v 2 2 1 cur.size ?_ ?_ (by omega) (blk_frozen hv 0) (blk_frozen hv 1)).mono ?_
    · rw [Nat.zero_add, blk_cell hh, Array.getElem?_eq_getElem (by omega)]; rfl
    · simp [World.shape?, hv]
    · simp [World.shape?, hh]
    · rintro e w' ⟨rfl, rfl⟩
      obtain ⟨cur1, k1, k2, k3⟩ := setCells_row (g := g) (e := 2) ((ints l).drop i) (0 + (i + 1)) W.drew cur hh (by rw [hdl]; omega)
      obtain ⟨cur2, q1, q2, q3⟩ := setCells_row (g := g) (e := 2) [Value.int .i64 x] (0 + i) _ cur1 k1 (by simp; omega)
      rw [Nat.zero_add] at k3 q3
      have hfin := ins_list (X := Value.int .i64 x) hi hcl h0 (by rw [Array.length_toList]; omega) k3 q3
      refine ⟨_, rfl, Kd.R_of_own ⟨by rw [hlen]; simp [encs]; omega, Or.inr ⟨g, c, cur2, by rw [hlen], hg, q1, by omega, hcm, by omega, ?_⟩⟩ (fun _ _ => trivial), below_setCells (below_setCells (below_drew1 (Below.refl base W)) hg) hg⟩
      rw [hlen, Nat.mul_one, hfin, ints_ins]
  · have hce : c = l.length := by omega
    subst hce
    refine (ins_grow g 0 l.length l.length i vb 0 1 1 (ints l) [Value.int .i64 x] W hi (by omega) (Nat.le_refl _) (by omega) (by omega) hcl rfl hcs hvs h1c h1v).mono ?_
    rintro e w' ⟨rfl, rfl⟩
    have hG1 := grownCap_ge W (l.length + 1) l.length 2
    have hG2 := grownCap_le_maxLen W (l.length + 1) l.length 2 (by unfold maxLen; omega)
    generalize grownCap W (l.length + 1) l.length 2 = G at hG1 hG2 ⊢
    obtain ⟨ROW, hROW⟩ : ∃ ROW : Array Value, ROW = ((ints l).take i).toArray ++ Builtin.zeroCells (Value.int .i64 0).cells (l.length + 1 - i) ++ Builtin.zeroCells (Value.int .i64 0).cells (G - (l.length + 1)) := ⟨_, rfl⟩
    rw [← hROW]
    have hRs : ROW.size = G := by
      rw [hROW]; simp [Builtin.zeroCells, Value.cells, hcl]; omega
    have hR0 : ROW.toList.take i = (ints l).take i := by
      rw [hROW]
      simp only [Array.toList_append, List.append_assoc]
      rw [List.take_append_of_le_length (by simp [hcl]; omega)]
      first | rfl | (rw [List.take_take, Nat.min_self]) | simp
    obtain ⟨cur1, k1, k2, k3⟩ := setCells_row (g := W.heap.size) (e := 2) [Value.int .i64 x] i (W.alloc (.cells ROW 2)).drew ROW (heap_alloc_new W _) (by simp; omega)
    obtain ⟨cur2, q1, q2, q3⟩ := setCells_row (g := W.heap.size) (e := 2) ((ints l).drop i) (i + 1) ((W.alloc (.cells ROW 2)).drew.setCells W.heap.size i [Value.int .i64 x]).drew cur1 k1 (by rw [hdl]; omega)
    have hfin := ins_list2 (X := Value.int .i64 x) hi hcl hR0 (by rw [Array.length_toList]; omega) k3 q3
    refine ⟨_, rfl, Kd.R_of_own ⟨by rw [hlen]; simp [encs]; omega, Or.inr ⟨W.heap.size, G, cur2, by rw [hlen], hbase, q1, by omega, hG2, by omega, ?_⟩⟩ (fun _ _ => trivial), ?_⟩
    · rw [hlen, Nat.mul_one, hfin, ints_ins]
    · have h1 : Below W.heap.size W (W.alloc (.cells ROW 2)) := below_alloc (Below.refl _ _) _
      have h2 := below_setCells (g := W.heap.size) (o := i + 1) (vs := (ints l).drop i) (below_drew1 (below_setCells (g := W.heap.size) (o := i) (vs := [Value.int .i64 x]) (below_drew1 h1) (Nat.le_refl _))) (Nat.le_refl _)
      exact ⟨h2.os, h2.tape, h2.output, h2.size, fun k hk => h2.block k (by omega)⟩
theorem ins_calls (W : World) (base : Nat) (hbase : base ≤ W.heap.size) (l : List Int) (x : Int) (i : Nat) (hi : i ≤ l.length) (hl : l.length ≤ 1000000) (A : Option Addr) (c vb : Nat) (hc : l.length ≤ c) (hs : Kd.R (Kd.int .i64) 2 W base (fun k => k ≠ vb) (.slice A l.length c) l) (hv : W.heap[vb]? = some (.cells #[.int .i64 x] 2 (0, 0))) :
    Calls Try.prog 19 #[.slice A l.length c, .int .i64 (i : Int), .slice (some ⟨vb, 0, none⟩) 1 1] W fun e w' => ∃ v', e = .returned v' ∧ Kd.R (Kd.int .i64) 2 w' base (fun _ => True) v' (l.take i ++ x :: l.drop i) ∧ Below base W w' := by
  by_cases h : i < l.length
  · exact ins_mid W base hbase l x i h hl A c vb hc hs hv
  · have e : i = l.length := by omega
    subst e
    rw [List.take_length, List.drop_length]
    exact ins_end W base hbase l x hl A c vb hc hs hv
end Go.Proofs.Ytmbojmmboolagaa.XS
