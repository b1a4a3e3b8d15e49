-- Printed by a program of this session's own (wip/xprint.py, which drives the kit's print); Lean checks it.
import Derived.Test.YtdmmgeggljlceaaDoorXV0
namespace Go.Proofs.YtdmmgeggljlceaaDoor.XV
open Go.RowKit Go.Proofs.YtdmmgeggljlceaaDoorW.PrintWords Go.Proofs.YtdmmgeggljlceaaDoorW.PrintLast Go.Proofs.YtdmmgeggljlceaaDoorW.PrintMore
attribute [local go_sem] max2_int min2_int max_two min_two max_three min_three max_four min_four   -- for this text's walks alone
set_option linter.unusedVariables false
set_option linter.unusedSimpArgs false

/-! ### value_quoted: function 31 (given) -/
def hexd (i : Int) : Int := if i < 10 then 48 + i else 87 + i
def qb (c : Int) : List Int := if c < 32 ∨ 126 < c then [92, 120, hexd (c / 16), hexd (c % 16)] else if c = 34 ∨ c = 92 then [92, c] else [c]
def quotedL (s : ByteArray) : List Int := 34 :: (bytesOf s).flatMap qb ++ [34]
def value_quoted.f (a0 : ByteArray) : Option ByteArray := if a0.size * 4 + 2 ≤ 140737488355328 then some (strOfNums (quotedL a0)) else none
theorem qt_C_new (W : World) (ys : List Int) (e : Nat) (hl : ys.length ≤ 9223372036854775807) : Kd.C (Kd.int .u8) (W.alloc (.cells (ys.map (Value.int .u8)).toArray e)) (some ⟨W.heap.size, 0, none⟩) ys.length ys := by
  refine Kd.C_of_reads (d := (0 : Int)) ⟨rfl, hl, fun _ => ⟨_, rfl, fun j hj => ?_⟩⟩
  have := blk_cell (heap_alloc_new W (.cells (ys.map (Value.int .u8)).toArray e)) j
  rw [Go.WideShapes.add_plain, Nat.zero_add, this]
  simp [hj]
theorem qt_bt_take (s : ByteArray) (k : Nat) (h : k < s.size) : (bytesOf s).take (k + 1) = (bytesOf s).take k ++ [bt s k] := by
  have hl : k < (bytesOf s).length := by simp [bytesOf]; exact h
  rw [List.take_succ_eq_append_getElem hl]
  congr 2
  simp [bytesOf, bt, h]
  rfl
theorem qt_bt_range (s : ByteArray) (k : Nat) : 0 ≤ bt s k ∧ bt s k ≤ 255 := by
  unfold bt; split
  · rename_i h; have := (s[(k : Int).toNat]'h).toNat_lt; omega
  · omega
theorem qb_len (c : Int) : (qb c).length ≤ 4 := by unfold qb; split <;> (try split) <;> simp
theorem qt_flat_len (l : List Int) : (l.flatMap qb).length ≤ 4 * l.length := by
  induction l with
  | nil => simp
  | cons c l ih => have := qb_len c; simp only [List.flatMap_cons, List.length_append, List.length_cons]; omega
theorem qt_bt_getD (s : ByteArray) (j : Nat) (h : j < s.size) : ((s.data.toList.getD j 0).toNat : Int) = bt s j := by
  simp [bt, h, List.getD]
  rfl
set_option maxRecDepth 100000 in
theorem and15_all : ∀ n : Fin 256, bits BinOp.and IntKind.u8 ((n.val : Nat) : Int) 15 = ((n.val : Nat) : Int) % 16 := by decide +kernel
theorem and15 (c : Int) (h0 : 0 ≤ c) (h1 : c ≤ 255) : bits BinOp.and IntKind.u8 c 15 = c % 16 := by
  obtain ⟨n, rfl⟩ := Int.eq_ofNat_of_zero_le h0
  have hn : n < 256 := by omega
  exact and15_all ⟨n, hn⟩
theorem hex_at (x : Int) (h0 : 0 ≤ x) (h1 : x < 16) : ∀ (h : x.toNat < ByteArray.size { data := #[48, 49, 50, 51, 52, 53, 54, 55, 56, 57, 97, 98, 99, 100, 101, 102] }), ((({ data := #[48, 49, 50, 51, 52, 53, 54, 55, 56, 57, 97, 98, 99, 100, 101, 102] } : ByteArray)[x.toNat]'h).toNat : Int) = hexd x := by
  intro h
  have : x = 0 ∨ x = 1 ∨ x = 2 ∨ x = 3 ∨ x = 4 ∨ x = 5 ∨ x = 6 ∨ x = 7 ∨ x = 8 ∨ x = 9 ∨ x = 10 ∨ x = 11 ∨ x = 12 ∨ x = 13 ∨ x = 14 ∨ x = 15 := by omega
  rcases this with h | h | h | h | h | h | h | h | h | h | h | h | h | h | h | h <;> subst h <;> rfl
theorem kept_conv {w W w1 : World} {v : Value} {o : Obj} {n : Nat} {f : Nat → Value} (h0 : ∀ k, v.ownBlock = some k → k ≠ w.heap.size + 1) (hc : ∀ j : Nat, j < n → W.cell? ⟨w.heap.size + 1, j, none⟩ = some (f j)) (hz : w.heap.size + 2 ≤ W.heap.size) (hg : (W.alloc o).drew.grownBy w1 v.ownBlock) :
    Aside0 (∀ j : Nat, j < n → w1.cell? ⟨w.heap.size + 1, j, none⟩ = some (f j)) := by
  refine ⟨fun j hj => ?_⟩
  have h1 : w1.heap[w.heap.size + 1]? = (W.alloc o).drew.heap[w.heap.size + 1]? := hg.block _ (by simp; omega) (fun e => h0 _ e.symm rfl)
  have h2 : (W.alloc o).drew.heap[w.heap.size + 1]? = W.heap[w.heap.size + 1]? := (below_drew (below_alloc (Below.refl _ _) o)).block _ (by omega)
  have h3 := hc j hj
  unfold World.cell? at h3 ⊢
  simp only [h1, h2]
  exact h3
theorem kept_conv' {w W w1 : World} {v : Value} {o : Obj} {n : Nat} {f : Nat → Value} (h0 : ∀ k, v.ownBlock = some k → k ≠ w.heap.size + 1) (hc : ∀ j : Nat, j < n → W.cell? ⟨w.heap.size + 1, j, none⟩ = some (f j)) (hz : w.heap.size + 2 ≤ W.heap.size) (hg : (W.alloc o).grownBy w1 v.ownBlock) :
    Aside0 (∀ j : Nat, j < n → w1.cell? ⟨w.heap.size + 1, j, none⟩ = some (f j)) := by
  refine ⟨fun j hj => ?_⟩
  have h1 : w1.heap[w.heap.size + 1]? = (W.alloc o).heap[w.heap.size + 1]? := hg.block _ (by simp; omega) (fun e => h0 _ e.symm rfl)
  have h2 : (W.alloc o).heap[w.heap.size + 1]? = W.heap[w.heap.size + 1]? := (below_alloc (Below.refl _ _) o).block _ (by omega)
  have h3 := hc j hj
  unfold World.cell? at h3 ⊢
  simp only [h1, h2]
  exact h3
theorem qt_size_conv {w W w1 : World} {v : Value} {o : Obj} (hz : w.heap.size + 2 ≤ W.heap.size) (hg : (W.alloc o).grownBy w1 v.ownBlock) : w.heap.size + 2 ≤ w1.heap.size :=
  Nat.le_trans hz (Nat.le_trans (below_alloc (Below.refl _ _) o).size hg.size)
theorem qt_eq_bounds {c d : Int} (h : c = d) : c ≤ d ∧ d ≤ c := by omega
theorem qt_below_bytes (w : World) (e : TypeId) (s : ByteArray) : Below w.heap.size w (Lib.bytesWorld w e s) := bytes_below (Below.refl _ _) (Nat.le_refl _) e s
theorem qt_R_assoc {w : World} {b : Nat} {ok : Nat → Prop} {v : Value} {xs ys zs : List Int} (h : Kd.R (Kd.int .u8) 5 w b ok v ((xs ++ ys) ++ zs)) : Kd.R (Kd.int .u8) 5 w b ok v (xs ++ (ys ++ zs)) := by rw [← List.append_assoc]; exact h
set_option maxHeartbeats 1000000 in
set_option maxRecDepth 100000 in
theorem value_quoted.calls (a0 : ByteArray) (r : ByteArray) (w : World) (h : value_quoted.f a0 = some r) :
    Calls Tryd.prog 31 #[.string a0] w fun e w' => e = .returned (.string r) ∧ Below w.heap.size w w' := by
  unfold value_quoted.f at h
  by_cases hb : a0.size * 4 + 2 ≤ 140737488355328
  · rw [if_pos hb] at h
    obtain rfl := Option.some.inj h
    clear h
    have hcv := fun (W : World) => Lib.run_convert_string_bytes (P := Tryd.prog) W 9 52 5 a0 Tryd.underlying9 Tryd.underlying52 Tryd.underlying5
    go_enter Tryd.func31, Tryd.ntmps31
    go_wp2
    have hst : w.heap.size < (w.alloc (Obj.cells #[Value.int IntKind.u8 34] 5)).heap.size := by simp
    have hR0 : Kd.R (Kd.int .u8) 5 (Lib.bytesWorld (w.alloc (Obj.cells #[Value.int IntKind.u8 34] 5)) 5 a0) w.heap.size (fun b => b ≠ w.heap.size + 1) (.slice (some ⟨w.heap.size, 0, none⟩) 1 1) [34] := by
      refine Kd.R_of_own (enc := Value.int .u8) (h1 := fun _ => rfl) ⟨rfl, .inr ⟨w.heap.size, 1, #[.int .u8 34], rfl, Nat.le_refl _, ?_, by simp, by simp [maxLen], by simp, by simp [encs]⟩⟩ (fun k hk => by injection hk with hk; simp at hk; omega)
      rw [Lib.bytesWorld_at_old _ _ _ _ hst]
      exact heap_alloc_new w _
    have hB0 : Below w.heap.size w (Lib.bytesWorld (w.alloc (Obj.cells #[Value.int IntKind.u8 34] 5)) 5 a0) := by
      refine below_step (below_alloc (Below.refl _ _) (Obj.cells #[Value.int IntKind.u8 34] 5)) ?_
      exact qt_below_bytes _ _ _
    go_loopw [3, 10] (fun v3 v10 w' => ∃ k : Nat, k ≤ a0.size ∧ v10 = .int .i64 k ∧ Aside0 (Kd.R (Kd.int .u8) 5 w' w.heap.size (fun b => b ≠ w.heap.size + 1) v3 (34 :: ((bytesOf a0).take k).flatMap qb)) ∧ Aside0 (Below w.heap.size w w') ∧ Aside0 (∀ j : Nat, j < a0.size → w'.cell? ⟨w.heap.size + 1, j, none⟩ = some (.int .u8 (bt a0 j))) ∧ Aside0 (w.heap.size + 2 ≤ w'.heap.size)) (fun _ v10 _ => a0.size - (intOf v10).toNat)
    case atStart =>
      refine ⟨0, Nat.zero_le _, rfl, ⟨by simpa using hR0⟩, ⟨hB0⟩, ⟨fun j hj => ?_⟩, ⟨by rw [Lib.bytesWorld_size]; simp⟩⟩
      have h2 := Lib.bytesWorld_cell (w.alloc (Obj.cells #[Value.int IntKind.u8 34] 5)) 5 a0 j hj
      have h3 : (w.alloc (Obj.cells #[Value.int IntKind.u8 34] 5)).heap.size = w.heap.size + 1 := by simp
      rw [h3] at h2
      rw [h2, qt_bt_getD a0 j hj]
    case round =>
      obtain ⟨k, hk, rfl, HR, HB, HC, HZ⟩ := hrel
      by_cases hlt : k < a0.size
      · have hc := HC.out k hlt
        obtain ⟨c0, c255⟩ := qt_bt_range a0 k
        have HT : Aside0 (34 :: ((bytesOf a0).take (k + 1)).flatMap qb = (34 :: ((bytesOf a0).take k).flatMap qb) ++ qb (bt a0 k)) := ⟨by rw [qt_bt_take a0 k hlt]; simp [List.flatMap_append]⟩
        have hlen : (34 :: ((bytesOf a0).take k).flatMap qb).length + 4 ≤ 140737488355328 := by
          have h1 := qt_flat_len ((bytesOf a0).take k)
          rw [List.length_take] at h1
          simp only [List.length_cons]
          omega
        obtain ⟨c, hcc⟩ : ∃ c, c = bt a0 k := ⟨_, rfl⟩
        rw [← hcc] at hc c0 c255 HT
        clear hcc
        by_cases h1 : c < 32 ∨ 126 < c
        · have hq : qb c = [92, 120, hexd (c / 16), hexd (c % 16)] := by unfold qb; rw [if_pos h1]
          have h2 : (c < 32) ∨ (32 ≤ c ∧ 126 < c) := by omega
          clear h1
          rcases h2 with h2 | ⟨h2, h3⟩
          · have hx0 : 0 ≤ c / 16 := by omega
            have hx1 : c / 16 < 16 := by omega
            have hy0 : 0 ≤ c % 16 := by omega
            have hy1 : c % 16 < 16 := by omega
            have hand : bits BinOp.and IntKind.u8 c 15 = c % 16 := and15 c (by omega) (by omega)
            have hex1 := hex_at (c / 16) hx0 hx1
            have hex2 := hex_at (c % 16) hy0 hy1
            have HC_ : Aside0 (Kd.C (Kd.int .u8) (wr.alloc (.cells #[.int .u8 92, .int .u8 120, .int .u8 (hexd (c / 16)), .int .u8 (hexd (c % 16))] 5)).drew (some ⟨wr.heap.size, 0, none⟩) 4 [92, 120, hexd (c / 16), hexd (c % 16)]) := ⟨Kd.C_below (qt_C_new wr [92, 120, hexd (c / 16), hexd (c % 16)] 5 (by simp)) (below_drew (Below.refl _ _))⟩
            have HQ := Aside0.mk hq
            have HL := Aside0.mk hlen
            clear hq hlen
            go_wp2
            go_region_law (refine Kd.R_append_rows_step (Kd.int .u8) (Rr := fun x cs => cs = [Value.int .u8 x]) (w0 := w) w.heap.size rfl (.tmp 21) (.tmp 28) 52 5 (.int .u8 0) 1 rfl Tryd.underlying52 info5 rfl (by decide) (by decide) _ (34 :: ((bytesOf a0).take k).flatMap qb) [92, 120, hexd (c / 16), hexd (c % 16)] _ 4 4 (fun b => b ≠ w.heap.size + 1) (fun _ => False) rfl rfl ?aO ?aR (fun _ _ h => h) (fun _ h => h.elim) ?aF ?aB ?aS ?aL ?_; (case aO => exact Kd.R_below HR.out (below_drew (below_alloc (Below.refl _ _) _))); (case aR => exact HC_.out); (case aF => exact fun k hk => by have := HZ.out; simp at hk; omega); (case aB => exact below_drew (below_alloc HB.out _)); (case aS => have := HZ.out; simp; omega); (case aL => rw [Nat.mul_one]; exact HL.out); intro v1 w1 hR1 hB1 hg1 hat1; have HR1 := Aside0.mk hR1; have HB1 := Aside0.mk hB1; have HG1 := Aside0.mk hg1; clear hR1 hB1 hg1 hat1)
            all_goals
              go_wp2
              go_roundw
              case rel => exact ⟨k + 1, by omega, by go_num, ⟨by rw [HT.out, HQ.out]; exact HR1.out⟩, HB1, kept_conv HR.out.1 HC.out HZ.out HG1.out, ⟨Nat.le_trans HZ.out (Nat.le_trans (below_drew (below_alloc (Below.refl _ _) _)).size HG1.out.size)⟩⟩
              case measure => simp [intOf]; omega
          · have hx0 : 0 ≤ c / 16 := by omega
            have hx1 : c / 16 < 16 := by omega
            have hy0 : 0 ≤ c % 16 := by omega
            have hy1 : c % 16 < 16 := by omega
            have hand : bits BinOp.and IntKind.u8 c 15 = c % 16 := and15 c (by omega) (by omega)
            have hex1 := hex_at (c / 16) hx0 hx1
            have hex2 := hex_at (c % 16) hy0 hy1
            have HC_ : Aside0 (Kd.C (Kd.int .u8) (wr.alloc (.cells #[.int .u8 92, .int .u8 120, .int .u8 (hexd (c / 16)), .int .u8 (hexd (c % 16))] 5)).drew (some ⟨wr.heap.size, 0, none⟩) 4 [92, 120, hexd (c / 16), hexd (c % 16)]) := ⟨Kd.C_below (qt_C_new wr [92, 120, hexd (c / 16), hexd (c % 16)] 5 (by simp)) (below_drew (Below.refl _ _))⟩
            have HQ := Aside0.mk hq
            have HL := Aside0.mk hlen
            clear hq hlen
            go_wp2
            go_region_law (refine Kd.R_append_rows_step (Kd.int .u8) (Rr := fun x cs => cs = [Value.int .u8 x]) (w0 := w) w.heap.size rfl (.tmp 21) (.tmp 28) 52 5 (.int .u8 0) 1 rfl Tryd.underlying52 info5 rfl (by decide) (by decide) _ (34 :: ((bytesOf a0).take k).flatMap qb) [92, 120, hexd (c / 16), hexd (c % 16)] _ 4 4 (fun b => b ≠ w.heap.size + 1) (fun _ => False) rfl rfl ?aO ?aR (fun _ _ h => h) (fun _ h => h.elim) ?aF ?aB ?aS ?aL ?_; (case aO => exact Kd.R_below HR.out (below_drew (below_alloc (Below.refl _ _) _))); (case aR => exact HC_.out); (case aF => exact fun k hk => by have := HZ.out; simp at hk; omega); (case aB => exact below_drew (below_alloc HB.out _)); (case aS => have := HZ.out; simp; omega); (case aL => rw [Nat.mul_one]; exact HL.out); intro v1 w1 hR1 hB1 hg1 hat1; have HR1 := Aside0.mk hR1; have HB1 := Aside0.mk hB1; have HG1 := Aside0.mk hg1; clear hR1 hB1 hg1 hat1)
            all_goals
              go_wp2
              go_roundw
              case rel => exact ⟨k + 1, by omega, by go_num, ⟨by rw [HT.out, HQ.out]; exact HR1.out⟩, HB1, kept_conv HR.out.1 HC.out HZ.out HG1.out, ⟨Nat.le_trans HZ.out (Nat.le_trans (below_drew (below_alloc (Below.refl _ _) _)).size HG1.out.size)⟩⟩
              case measure => simp [intOf]; omega
        · have h2 : 32 ≤ c := by omega
          have h3 : c ≤ 126 := by omega
          by_cases h4 : c = 34 ∨ c = 92
          · have hq : qb c = [92, c] := by unfold qb; rw [if_neg h1, if_pos h4]
            have HQ := Aside0.mk hq
            have HL := Aside0.mk hlen
            clear hq hlen
            rcases h4 with h4 | h4
            · subst h4
              clear h1 h2 h3
              go_wp2_with (at_builtin; refine Kd.R_append_row (Value.int .u8) 0 (h1 := fun _ => rfl) (w0 := w) w.heap.size rfl (.tmp 37) (.tmp 38) 52 5 (.int .u8 0) 1 rfl Tryd.underlying52 info5 rfl (by decide) u3 (34 :: ((bytesOf a0).take k).flatMap qb) [92] (some ⟨wr.heap.size, 0, none⟩) 1 1 (fun b => b ≠ w.heap.size + 1) rfl rfl ?aF ?aO ?aR ?aB ?aS ?aL ?_)
              case aF => exact fun k hk => by have := HZ.out; simp at hk; omega
              case aO => exact Kd.R_below HR.out (below_alloc (Below.refl _ _) _)
              case aR => exact qt_C_new wr [92] 5 (by simp)
              case aB => exact below_alloc HB.out _
              case aS => have := HZ.out; simp; omega
              case aL => have := HL.out; rw [Nat.mul_one]; omega
              intro v1 w1 hR1 hB1 hg1 hat1
              have HZ1 := Aside0.mk (qt_size_conv HZ.out hg1)
              have HC1 := kept_conv' HR.out.1 HC.out HZ.out hg1
              have HR1 := Aside0.mk hR1
              have HB1 := Aside0.mk hB1
              clear hR1 hB1 hg1 hat1
              go_wp2_with (at_builtin; refine Kd.R_append_row (Value.int .u8) 0 (h1 := fun _ => rfl) (w0 := w) w.heap.size rfl (.tmp 40) (.tmp 42) 52 5 (.int .u8 0) 1 rfl Tryd.underlying52 info5 rfl (by decide) v1 ((34 :: ((bytesOf a0).take k).flatMap qb) ++ [92]) [34] (some ⟨w1.heap.size, 0, none⟩) 1 1 (fun b => b ≠ w.heap.size + 1) rfl rfl ?aF ?aO ?aR ?aB ?aS ?aL ?_)
              case aF => exact fun k hk => by have := HZ1.out; simp at hk; omega
              case aO => exact Kd.R_below HR1.out (below_alloc (Below.refl _ _) _)
              case aR => exact qt_C_new w1 [34] 5 (by simp)
              case aB => exact below_alloc HB1.out _
              case aS => have := HZ1.out; simp; omega
              case aL => have := HL.out; rw [Nat.mul_one, List.length_append]; simp only [List.length_singleton]; omega
              intro v2 w2 hR2 hB2 hg2 hat2
              have HZ2 := Aside0.mk (qt_size_conv HZ1.out hg2)
              have HC2 := kept_conv' HR1.out.1 HC1.out HZ1.out hg2
              have HR2 := Aside0.mk hR2
              have HB2 := Aside0.mk hB2
              clear hR2 hB2 hg2 hat2
              go_wp2
              go_roundw
              case rel => exact ⟨k + 1, by omega, by go_num, ⟨by rw [HT.out, HQ.out]; exact HR2.out⟩, HB2, HC2, HZ2⟩
              case measure => simp [intOf]; omega
            · subst h4
              clear h1 h2 h3
              go_wp2_with (at_builtin; refine Kd.R_append_row (Value.int .u8) 0 (h1 := fun _ => rfl) (w0 := w) w.heap.size rfl (.tmp 37) (.tmp 38) 52 5 (.int .u8 0) 1 rfl Tryd.underlying52 info5 rfl (by decide) u3 (34 :: ((bytesOf a0).take k).flatMap qb) [92] (some ⟨wr.heap.size, 0, none⟩) 1 1 (fun b => b ≠ w.heap.size + 1) rfl rfl ?aF ?aO ?aR ?aB ?aS ?aL ?_)
              case aF => exact fun k hk => by have := HZ.out; simp at hk; omega
              case aO => exact Kd.R_below HR.out (below_alloc (Below.refl _ _) _)
              case aR => exact qt_C_new wr [92] 5 (by simp)
              case aB => exact below_alloc HB.out _
              case aS => have := HZ.out; simp; omega
              case aL => have := HL.out; rw [Nat.mul_one]; omega
              intro v1 w1 hR1 hB1 hg1 hat1
              have HZ1 := Aside0.mk (qt_size_conv HZ.out hg1)
              have HC1 := kept_conv' HR.out.1 HC.out HZ.out hg1
              have HR1 := Aside0.mk hR1
              have HB1 := Aside0.mk hB1
              clear hR1 hB1 hg1 hat1
              go_wp2_with (at_builtin; refine Kd.R_append_row (Value.int .u8) 0 (h1 := fun _ => rfl) (w0 := w) w.heap.size rfl (.tmp 40) (.tmp 42) 52 5 (.int .u8 0) 1 rfl Tryd.underlying52 info5 rfl (by decide) v1 ((34 :: ((bytesOf a0).take k).flatMap qb) ++ [92]) [92] (some ⟨w1.heap.size, 0, none⟩) 1 1 (fun b => b ≠ w.heap.size + 1) rfl rfl ?aF ?aO ?aR ?aB ?aS ?aL ?_)
              case aF => exact fun k hk => by have := HZ1.out; simp at hk; omega
              case aO => exact Kd.R_below HR1.out (below_alloc (Below.refl _ _) _)
              case aR => exact qt_C_new w1 [92] 5 (by simp)
              case aB => exact below_alloc HB1.out _
              case aS => have := HZ1.out; simp; omega
              case aL => have := HL.out; rw [Nat.mul_one, List.length_append]; simp only [List.length_singleton]; omega
              intro v2 w2 hR2 hB2 hg2 hat2
              have HZ2 := Aside0.mk (qt_size_conv HZ1.out hg2)
              have HC2 := kept_conv' HR1.out.1 HC1.out HZ1.out hg2
              have HR2 := Aside0.mk hR2
              have HB2 := Aside0.mk hB2
              clear hR2 hB2 hg2 hat2
              go_wp2
              go_roundw
              case rel => exact ⟨k + 1, by omega, by go_num, ⟨by rw [HT.out, HQ.out]; exact HR2.out⟩, HB2, HC2, HZ2⟩
              case measure => simp [intOf]; omega
          · have hq : qb c = [c] := by unfold qb; rw [if_neg h1, if_neg h4]
            have HQ := Aside0.mk hq
            have HL := Aside0.mk hlen
            have h5 : (c == 34) = false := by simp; omega
            have h6 : (c == 92) = false := by simp; omega
            clear hq hlen h1 h4
            go_wp2_with (at_builtin; refine Kd.R_append_row (Value.int .u8) 0 (h1 := fun _ => rfl) (w0 := w) w.heap.size rfl (.tmp 40) (.tmp 42) 52 5 (.int .u8 0) 1 rfl Tryd.underlying52 info5 rfl (by decide) u3 (34 :: ((bytesOf a0).take k).flatMap qb) [c] (some ⟨wr.heap.size, 0, none⟩) 1 1 (fun b => b ≠ w.heap.size + 1) rfl rfl ?aF ?aO ?aR ?aB ?aS ?aL ?_)
            case aF => exact fun k hk => by have := HZ.out; simp at hk; omega
            case aO => exact Kd.R_below HR.out (below_alloc (Below.refl _ _) _)
            case aR => exact qt_C_new wr [c] 5 (by simp)
            case aB => exact below_alloc HB.out _
            case aS => have := HZ.out; simp; omega
            case aL => have := HL.out; rw [Nat.mul_one]; omega
            intro v1 w1 hR1 hB1 hg1 hat1
            have HZ1 := Aside0.mk (qt_size_conv HZ.out hg1)
            have HC1 := kept_conv' HR.out.1 HC.out HZ.out hg1
            have HR1 := Aside0.mk hR1
            have HB1 := Aside0.mk hB1
            clear hR1 hB1 hg1 hat1
            go_wp2
            go_roundw
            case rel => exact ⟨k + 1, by omega, by go_num, ⟨by rw [HT.out, HQ.out]; exact HR1.out⟩, HB1, HC1, HZ1⟩
            case measure => simp [intOf]; omega
      · obtain rfl : k = a0.size := by omega
        have hfull : (bytesOf a0).take a0.size = bytesOf a0 := List.take_of_length_le (by simp [bytesOf])
        have hfl := qt_flat_len (bytesOf a0)
        rw [hfull] at HR
        have hlen : (34 :: (bytesOf a0).flatMap qb).length + 1 ≤ 140737488355328 := by
          have : (bytesOf a0).length = a0.size := by simp [bytesOf]
          simp only [List.length_cons]; omega
        have HL := Aside0.mk hlen
        clear hfull hfl hlen hlt
        go_wp2_with (at_builtin; refine Kd.R_append_row (Value.int .u8) 0 (h1 := fun _ => rfl) (w0 := w) w.heap.size rfl (.tmp 45) (.tmp 46) 52 5 (.int .u8 0) 1 rfl Tryd.underlying52 info5 rfl (by decide) u3 (34 :: (bytesOf a0).flatMap qb) [34] (some ⟨wr.heap.size, 0, none⟩) 1 1 (fun b => b ≠ w.heap.size + 1) rfl rfl ?aF ?aO ?aR ?aB ?aS ?aL ?_)
        case aF => exact fun k hk => by have := HZ.out; simp at hk; omega
        case aO => exact Kd.R_below HR.out (below_alloc (Below.refl _ _) _)
        case aR => exact qt_C_new wr [34] 5 (by simp)
        case aB => exact below_alloc HB.out _
        case aS => have := HZ.out; simp; omega
        case aL => have := HL.out; rw [Nat.mul_one]; omega
        intro v1 w1 hR1 hB1 hg1 hat1
        have hcs := own_string (P := Tryd.prog) Tryd.underlying52 Tryd.underlying5 Tryd.underlying9 (Kd.own_of_R hR1)
        have HB1 := Aside0.mk hB1
        clear hR1 hB1 hg1 hat1
        go_wp2
        go_ret
        exact ⟨rfl, HB1.out⟩
  · rw [if_neg hb] at h; cases h

end Go.Proofs.YtdmmgeggljlceaaDoor.XV
