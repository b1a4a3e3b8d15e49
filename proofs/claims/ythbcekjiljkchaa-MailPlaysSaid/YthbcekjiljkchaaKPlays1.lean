/- Words, printed functions and plain lemmas that the claim's theorem reaches (gathered by a program of this session out of its own and the print's texts). No conditions but those that each statement names. -/
import Derived.Test.YthbcekjiljkchaaKPlays0
import Derived.Test.YthbcekjiljkchaaProg
import Derived.Below
import Derived.Deep.Draws
import Derived.Deep.AppendLies
import Derived.Maps.AppendAt
import Derived.OwnWalk
import Derived.Laws.BytesArg
import Derived.Laws.MakeOwn
import Derived.Laws.OwnMore
import Derived.Deep.OwnRows
import Derived.Tactics
import Derived.Lib.ConvBytes
import Derived.Laws.Slices
import Derived.WalkKit
import Derived.KernelRfl
import Derived.RowKit3
import Derived.Deep.LoopGhost
import Derived.Deep.QuietTactic
import Derived.BigQuiet
import Derived.WideLaws
import Derived.Deep.DeepCutAuto
import Derived.Deep.CutBlock
import Derived.Deep.RegionHeld3
import Derived.Laws.Rows
import Derived.Lib.AppendStr
import Derived.ArgAppend
import Derived.Laws.IdiomCopy
import Derived.OrdersHeld
import Derived.Laws.BitsLemmas
import Derived.RowKit
import Derived.WalkLawsBesides
import Derived.WalkSpells
import Derived.Laws.RangeString
import Derived.Laws.RangeAny
import Derived.StillTailTactics
import Derived.Deep.RegionLaw
import Derived.Deep.LoopGhost
import Derived.Lib.SmallJoins
import Derived.Outline
import Derived.SizedLaws
import Derived.ChangeArms
import Derived.DataReads
import Derived.Lib.LaidU8
import Derived.Lib.LaidTab
import Derived.MakeChecks
namespace Go.Proofs.Ythbcekjiljkchaa.XM
open Go.RowKit Go.Proofs.YthbcekjiljkchaaW.PrintWords Go.Proofs.YthbcekjiljkchaaW.PrintLast Go.Proofs.YthbcekjiljkchaaW.PrintMore
attribute [local go_sem] max2_int min2_int max_two min_two max_three min_three max_four min_four   -- for this text's walks alone
set_option linter.unusedVariables false
set_option linter.unusedSimpArgs false
def errW : Option Int → Value
  | none => .nilIface
  | some c => .iface 0 (.int .i64 c)
theorem errW_none : errW none = .nilIface := rfl
theorem errW_some (c : Int) : errW (some c) = .iface 0 (.int .i64 c) := rfl
theorem info2 : (Try.prog.info? 2).map (fun i => (i.zero, i.size, i.bytes)) = some (some (.int .i64 0), 1, 8) := by kernel_rfl
theorem info49 : (Try.prog.info? 49).map (fun i => (i.zero, i.size, i.bytes)) = some (some (.agg #[(.int .i64 0), (.int .i64 0), (.string ⟨#[]⟩), (.slice none 0 0)]), 4, 56) := by kernel_rfl
structure S49 where
  f0 : Int
  f1 : Int
  f2 : ByteArray
  f3 : (List Int)
def z49 : S49 := ⟨(0 : Int), (0 : Int), (⟨#[]⟩ : ByteArray), ([] : List Int)⟩
def k49 : Kd S49 := Kd.iso (Kd.pair (Kd.int .i64) (Kd.pair (Kd.int .i64) (Kd.pair Kd.string (Kd.slice 2 (Kd.int .i64))))) (fun x : S49 => (x.f0, x.f1, x.f2, x.f3))
theorem k49_open {w : World} {x : S49} {cs : List Value} (h : k49.K w x cs) : ∃ A3 c3, cs = [.int .i64 x.f0, .int .i64 x.f1, .string x.f2, .slice A3 x.f3.length c3] ∧ x.f3.length ≤ c3 ∧ (Kd.int .i64).C w A3 x.f3.length x.f3 := by
  obtain ⟨_, _, rfl, rfl, ⟨_, _, rfl, rfl, ⟨_, _, rfl, rfl, ⟨A3, c3, rfl, l3, g3⟩⟩⟩⟩ := h
  exact ⟨A3, c3, rfl, l3, g3⟩
theorem k49_mkM (w : World) (base : Nat) (ok : Nat → Prop) (x : S49) {v3 : Value} (g3 : (Kd.int .i64).R 2 w base ok v3 x.f3) : k49.M w base ok x [.int .i64 x.f0, .int .i64 x.f1, .string x.f2, v3] := ⟨[.int .i64 x.f0], [.int .i64 x.f1, .string x.f2, v3], rfl, rfl, ⟨[.int .i64 x.f1], [.string x.f2, v3], rfl, rfl, ⟨[.string x.f2], [v3], rfl, rfl, ⟨v3, rfl, g3⟩⟩⟩⟩
def rd_T49 (xs : List S49) (i : Int) : S49 := xs.getD i.toNat z49
theorem at_T49 {w : World} {A : Option Addr} {n : Nat} {xs : List S49} (h : Kd.C k49 w A n xs) (i : Int) (h0 : 0 ≤ i) (h1 : i < n) : ∃ ad A3 c3, A = some ad ∧ w.cell? (ad.add (i.toNat * 4)) = some (.int .i64 (rd_T49 xs i).f0) ∧ w.cell? ⟨(ad.add (i.toNat * 4)).block, (ad.add (i.toNat * 4)).off + 1, none⟩ = some (.int .i64 (rd_T49 xs i).f1) ∧ w.cell? ⟨(ad.add (i.toNat * 4)).block, (ad.add (i.toNat * 4)).off + 2, none⟩ = some (.string (rd_T49 xs i).f2) ∧ w.cell? ⟨(ad.add (i.toNat * 4)).block, (ad.add (i.toNat * 4)).off + 3, none⟩ = some (.slice A3 (rd_T49 xs i).f3.length c3) ∧ (rd_T49 xs i).f3.length ≤ c3 ∧ (Kd.int .i64).C w A3 (rd_T49 xs i).f3.length (rd_T49 xs i).f3 := by
  obtain ⟨ad, c, e, _, hK, hc0⟩ := Kd.C_get h z49 i h0 h1
  have hc : ∀ j u, c[j]? = some u → w.cell? (ad.add (i.toNat * 4 + j)) = some u := hc0
  obtain ⟨A3, c3, rfl, l3, g3⟩ := k49_open hK
  exact ⟨ad, A3, c3, e, hc 0 _ rfl, by rw [← add_field _ _ 1 (by omega)]; exact hc 1 _ rfl, by rw [← add_field _ _ 2 (by omega)]; exact hc 2 _ rfl, by rw [← add_field _ _ 3 (by omega)]; exact hc 3 _ rfl, l3, g3⟩
structure S30 where
  f0 : Int
  f1 : ByteArray
  f2 : (List S49)
  f3 : (List S49)
def z30 : S30 := ⟨(0 : Int), (⟨#[]⟩ : ByteArray), ([] : List S49), ([] : List S49)⟩
def k30 : Kd S30 := Kd.iso (Kd.pair (Kd.int .i64) (Kd.pair Kd.string (Kd.pair (Kd.slice 49 k49) (Kd.slice 49 k49)))) (fun x : S30 => (x.f0, x.f1, x.f2, x.f3))
theorem k30_open {w : World} {x : S30} {cs : List Value} (h : k30.K w x cs) : ∃ A2 c2 A3 c3, cs = [.int .i64 x.f0, .string x.f1, .slice A2 x.f2.length c2, .slice A3 x.f3.length c3] ∧ x.f2.length ≤ c2 ∧ k49.C w A2 x.f2.length x.f2 ∧ x.f3.length ≤ c3 ∧ k49.C w A3 x.f3.length x.f3 := by
  obtain ⟨_, _, rfl, rfl, ⟨_, _, rfl, rfl, ⟨_, _, rfl, ⟨A2, c2, rfl, l2, g2⟩, ⟨A3, c3, rfl, l3, g3⟩⟩⟩⟩ := h
  exact ⟨A2, c2, A3, c3, rfl, l2, g2, l3, g3⟩
theorem k30_mk (w : World) (x : S30) {A2 : Option Addr} {c2 : Nat} (l2 : x.f2.length ≤ c2) (g2 : k49.C w A2 x.f2.length x.f2) {A3 : Option Addr} {c3 : Nat} (l3 : x.f3.length ≤ c3) (g3 : k49.C w A3 x.f3.length x.f3) : k30.K w x [.int .i64 x.f0, .string x.f1, .slice A2 x.f2.length c2, .slice A3 x.f3.length c3] := ⟨[.int .i64 x.f0], [.string x.f1, .slice A2 x.f2.length c2, .slice A3 x.f3.length c3], rfl, rfl, ⟨[.string x.f1], [.slice A2 x.f2.length c2, .slice A3 x.f3.length c3], rfl, rfl, ⟨[.slice A2 x.f2.length c2], [.slice A3 x.f3.length c3], rfl, ⟨A2, c2, rfl, l2, g2⟩, ⟨A3, c3, rfl, l3, g3⟩⟩⟩⟩
theorem k30_mkM (w : World) (base : Nat) (ok : Nat → Prop) (x : S30) {v2 : Value} (g2 : k49.R 49 w base ok v2 x.f2) {v3 : Value} (g3 : k49.R 49 w base ok v3 x.f3) : k30.M w base ok x [.int .i64 x.f0, .string x.f1, v2, v3] := ⟨[.int .i64 x.f0], [.string x.f1, v2, v3], rfl, rfl, ⟨[.string x.f1], [v2, v3], rfl, rfl, ⟨[v2], [v3], rfl, ⟨v2, rfl, g2⟩, ⟨v3, rfl, g3⟩⟩⟩⟩
def rd_T30 (xs : List S30) (i : Int) : S30 := xs.getD i.toNat z30
theorem at_T30 {w : World} {A : Option Addr} {n : Nat} {xs : List S30} (h : Kd.C k30 w A n xs) (i : Int) (h0 : 0 ≤ i) (h1 : i < n) : ∃ ad A2 c2 A3 c3, A = some ad ∧ w.cell? (ad.add (i.toNat * 4)) = some (.int .i64 (rd_T30 xs i).f0) ∧ w.cell? ⟨(ad.add (i.toNat * 4)).block, (ad.add (i.toNat * 4)).off + 1, none⟩ = some (.string (rd_T30 xs i).f1) ∧ w.cell? ⟨(ad.add (i.toNat * 4)).block, (ad.add (i.toNat * 4)).off + 2, none⟩ = some (.slice A2 (rd_T30 xs i).f2.length c2) ∧ w.cell? ⟨(ad.add (i.toNat * 4)).block, (ad.add (i.toNat * 4)).off + 3, none⟩ = some (.slice A3 (rd_T30 xs i).f3.length c3) ∧ (rd_T30 xs i).f2.length ≤ c2 ∧ k49.C w A2 (rd_T30 xs i).f2.length (rd_T30 xs i).f2 ∧ (rd_T30 xs i).f3.length ≤ c3 ∧ k49.C w A3 (rd_T30 xs i).f3.length (rd_T30 xs i).f3 := by
  obtain ⟨ad, c, e, _, hK, hc0⟩ := Kd.C_get h z30 i h0 h1
  have hc : ∀ j u, c[j]? = some u → w.cell? (ad.add (i.toNat * 4 + j)) = some u := hc0
  obtain ⟨A2, c2, A3, c3, rfl, l2, g2, l3, g3⟩ := k30_open hK
  exact ⟨ad, A2, c2, A3, c3, e, hc 0 _ rfl, by rw [← add_field _ _ 1 (by omega)]; exact hc 1 _ rfl, by rw [← add_field _ _ 2 (by omega)]; exact hc 2 _ rfl, by rw [← add_field _ _ 3 (by omega)]; exact hc 3 _ rfl, l2, g2, l3, g3⟩
end Go.Proofs.Ythbcekjiljkchaa.XM
namespace Go.Proofs.Ythbcekjiljkchaa.XM
open Go.RowKit Go.Proofs.YthbcekjiljkchaaW.PrintWords Go.Proofs.YthbcekjiljkchaaW.PrintLast Go.Proofs.YthbcekjiljkchaaW.PrintMore
attribute [local go_sem] max2_int min2_int max_two min_two max_three min_three max_four min_four   -- for this text's walks alone
set_option linter.unusedVariables false
set_option linter.unusedSimpArgs false
theorem slices_Clone_int64_int64_empty {α : Type} (d : Kd α) (e : Nat) (w : World) (base : Nat) (hb : base ≤ w.heap.size) : d.R e (w.alloc (.cells #[] e)) base (fun _ => True) (.slice (some ⟨w.heap.size, 0, none⟩) 0 0) [] := by
  refine ⟨fun _ _ => trivial, [], ⟨by simp, .inr ⟨w.heap.size, 0, #[], rfl, hb, ?_, by simp, by simp, by simp, by simp⟩⟩, Reps.none _ _⟩
  simpa using heap_alloc_new w (.cells #[] e)
def slices_Clone_int64_int64.f (l0 : List Int) : Option (List Int) := if l0.length * 8 ≤ 140737488355328 then some l0 else none
set_option maxHeartbeats 800000 in
theorem slices_Clone_int64_int64.calls (A0 : Option Addr) (c0 : Nat) (l0 : List Int) (r : List Int) (w : World) (hr0 : Kd.C (Kd.int .i64) w A0 l0.length l0) (hc0 : l0.length ≤ c0) (h : slices_Clone_int64_int64.f l0 = some r) :
    Calls Try.prog 25 #[.slice A0 l0.length c0] w fun e w' => ∃ v0_ : Value, e = .returned (v0_) ∧ Kd.R (Kd.int .i64) 2 w' w.heap.size (fun _ => True) v0_ r ∧ Below w.heap.size w w' := by
  have hrun := fun (W : World) (a : Option Addr) (n c : Nat) => Lib.run_eql_slice_nil (P := Try.prog) W 47 2 a n c 0 0 Try.underlying47
  unfold slices_Clone_int64_int64.f at h
  by_cases hb : l0.length * 8 ≤ 140737488355328
  · rw [if_pos hb] at h
    obtain rfl := Option.some.inj h
    clear h
    cases A0 with
    | none =>
      have e0 : l0 = [] := by
        rcases Nat.eq_zero_or_pos l0.length with h0 | h0
        · exact List.length_eq_zero_iff.1 h0
        · obtain ⟨ad, e, _⟩ := hr0.2.2 h0; cases e
      subst e0
      clear hr0
      go_enter Try.func25, Try.ntmps25
      go_wp2
      go_ret
      exact ⟨_, rfl, Kd.R_nil _ _ _ _ _, Below.refl _ _⟩
    | some ad =>
      have HR := Aside0.mk hr0
      clear hr0
      have HB := Aside0.mk hb
      clear hb
      go_enter Try.func25, Try.ntmps25
      go_wp2_with (at_builtin; refine Kd.R_append_row (Value.int .i64) 0 (h1 := fun _ => rfl) (w0 := w) w.heap.size rfl (.tmp 5) (.tmp 6) 47 2 (.int .i64 0) 8 rfl Try.underlying47 info2 rfl (by decide) (.slice (some ⟨w.heap.size, 0, none⟩) 0 0) [] l0 (some ad) l0.length c0 (fun _ => True) rfl rfl (fun _ _ => trivial) ?aO ?aR ?aB ?aS ?aL ?_)
      case aO => exact slices_Clone_int64_int64_empty _ _ _ _ (Nat.le_refl _)
      case aR => exact Kd.C_below HR.out (below_alloc (Below.refl _ _) _)
      case aB => exact below_alloc (Below.refl _ _) _
      case aS => simp
      case aL => have := HB.out; simp; omega
      intro v1 w1 hR hB hg hat
      have HR1 := Aside0.mk hR
      have HB1 := Aside0.mk hB
      clear hR hB hg hat
      go_wp2
      go_ret
      exact ⟨_, rfl, HR1.out, HB1.out⟩
  · rw [if_neg hb] at h; cases h
def value_Twin.l0 : Nat → List (S49) → List (S49) → Int → Int → Option ((List (S49)))
  | 0, _, _, _, _ => none
  | k + 1, x3, x6, x7, x8 => if x8 < x7 then (if 0 ≤ x8 then (if x8 < (x6.length : Int) then ((slices_Clone_int64_int64.f ((rd_T49 x6 x8).f3)).bind fun t103 => (if x3.length < 2513169434916 then (value_Twin.l0 k (x3 ++ [(⟨(rd_T49 x6 x8).f0, (rd_T49 x6 x8).f1, (rd_T49 x6 x8).f2, t103⟩ : S49)]) x6 x7 (wrap64 (x8 + 1))) else (none))) else (none)) else (none)) else (some x3)
def value_Twin.f (k : Nat) (l0 : List (S49)) : Option ((List (S49))) := value_Twin.l0 k ([] : List (S49)) l0 (l0.length : Int) 0
set_option maxHeartbeats 600000 in
set_option maxRecDepth 100000 in
theorem value_Twin.calls (k : Nat) (A0 : Option Addr) (c0 : Nat) (l0 : List (S49)) (r : List (S49)) (w : World) (hr0 : Kd.C k49 w A0 l0.length l0) (hc0 : l0.length ≤ c0) (h : value_Twin.f k l0 = some r) :
    Calls Try.prog 24 #[.slice A0 l0.length c0] w fun e w' => ∃ v0_ : Value, e = .returned (v0_) ∧ Kd.S k49 49 w' w.heap.size (fun _ => True) v0_ r ∧ Below w.heap.size w w' := by
  have hu49 := Try.underlying49
  have HR0 := Aside0.mk hr0
  have HC0 := Aside0.mk hc0
  clear hr0 hc0
  have HB := Aside0.mk (Below.refl w.heap.size w)
  have H : (value_Twin.l0 k ([] : List (S49)) l0 (l0.length : Int) 0) = some r := h
  clear h
  have H' := Aside0.mk H
  clear H
  go_enter Try.func24, Try.ntmps24
  go_wp2
  go_loopg [3, 8] k (fun kq v3 v8 w' => ∃ (x3_1 : List (S49)) (x8_1 : Int), v8 = .int .i64 x8_1 ∧ Aside0 (value_Twin.l0 kq x3_1 l0 (l0.length : Int) x8_1 = some r) ∧ Aside0 (kq ≤ k) ∧ Aside0 (Kd.S k49 49 w' w.heap.size (fun _ => True) v3 x3_1) ∧ Aside0 (Below w.heap.size w w'))
  case atStart => exact ⟨(([] : List (S49))), (0), (by first | rfl | (simp; done) | (simp [*]; done)), H', ⟨Nat.le_refl _⟩, ⟨by first | exact Kd.S_nil _ _ _ _ _ | exact Kd.N_nil _ _ _ _ _ | exact Kd.V_nil _ _ _ _ _ | exact Kd.Q_nil _ _ _ _ _ | exact Kd.R_nil _ _ _ _ _⟩, ⟨by repeat (first | (with_reducible first | exact HB.out | apply below_alloc | apply pw_below_drewN | apply below_drew1) | exact HB.out)⟩⟩
  case round =>
    clear H'
    obtain ⟨x3_1, x8_1, rfl, HA, HK1, HO_3, HB⟩ := hrel
    cases gk with
    | zero => exact absurd HA.out (by simp [value_Twin.l0])
    | succ k1 =>
      have H := HA.out
      clear HA
      simp only [value_Twin.l0] at H
      by_cases c2 : x8_1 < (l0.length : Int)
      · rw [if_pos c2] at H
        have c2b0 : decide (x8_1 < (l0.length : Int)) = true := decide_eq_true c2
        clear c2
        by_cases c3 : 0 ≤ x8_1
        · rw [if_pos c3] at H
          have c3b0 : decide (0 ≤ x8_1) = true := decide_eq_true c3
          clear c3
          by_cases c4 : x8_1 < (l0.length : Int)
          · rw [if_pos c4] at H
            have c4b0 : decide (x8_1 < (l0.length : Int)) = true := decide_eq_true c4
            clear c4
            replace H := Option.bind_eq_some_iff.mp H
            obtain ⟨t103, A50, H⟩ := H
            replace H : (if x3_1.length < 2513169434916 then (value_Twin.l0 k1 (x3_1 ++ [(⟨(rd_T49 l0 x8_1).f0, (rd_T49 l0 x8_1).f1, (rd_T49 l0 x8_1).f2, t103⟩ : S49)]) l0 (l0.length : Int) (wrap64 (x8_1 + 1))) else (none)) = some r := H
            have A5 := Aside0.mk A50
            clear A50
            by_cases c6 : x3_1.length < 2513169434916
            · rw [if_pos c6] at H
              have LMc6 := Aside0.mk c6
              clear c6
              obtain ⟨y106, hy106⟩ : ∃ y_ : List (S49), y_ = (x3_1 ++ [(⟨(rd_T49 l0 x8_1).f0, (rd_T49 l0 x8_1).f1, (rd_T49 l0 x8_1).f2, t103⟩ : S49)]) := ⟨_, rfl⟩
              replace H : (value_Twin.l0 k1 y106 l0 (l0.length : Int) (wrap64 (x8_1 + 1))) = some r := by first | (rw [hy106]; with_reducible exact H) | (have H2_ := (Option.bind_some _ _).symm.trans H; rw [hy106]; with_reducible exact H2_) | (have H2_ := (Option.bind_some _ _).symm.trans H; with_reducible exact H2_) | with_reducible exact H | (rw [hy106]; exact H) | exact H
              have Ny106 := Aside0.mk hy106
              clear hy106
              have H' := Aside0.mk H
              clear H
              have p101 : 0 ≤ (x8_1 : Int) := of_decide_eq_true (by first | (with_reducible assumption) | assumption)
              have q101 : x8_1 < (l0.length : Int) := of_decide_eq_true (by first | (with_reducible assumption) | assumption)
              obtain ⟨ad101, A101_3, c101_3, e101, hx101_0, hx101_1, hx101_2, hx101_3, hl101_3, hi101_3⟩ := at_T49 HR0.out x8_1 p101 q101
              cases e101
              replace hx101_0 := (HB.out.cell (World.block_lt_of_cell? w _ hx101_0)).trans hx101_0
              replace hx101_1 := (HB.out.cell (World.block_lt_of_cell? w _ hx101_1)).trans hx101_1
              replace hx101_2 := (HB.out.cell (World.block_lt_of_cell? w _ hx101_2)).trans hx101_2
              replace hx101_3 := (HB.out.cell (World.block_lt_of_cell? w _ hx101_3)).trans hx101_3
              have HR101_3 := Aside0.mk hi101_3
              have HC101_3 := Aside0.mk hl101_3
              clear hi101_3 hl101_3
              replace p101 := eq_true p101
              replace q101 := eq_true q101
              go_wp2_with (first | ((with_reducible refine gate_dst (N := 5) rfl ?_); refine box_event ?hg (N := 5) ?hd (cs := #[.int .i64 0, .int .i64 0, .string (⟨#[]⟩ : ByteArray), .slice none 0 0]) (t := 49) ?hr ?_; (case hd => rfl); (case hg => rfl); (case hr => first | (go_simp; done) | (go_simp; rfl)); intro gb102 hg w7 hbox hb; have n0_ := Aside0.mk (Kd.S_below (Kd.S_elderB (by (with_reducible repeat (first | apply Kd.S_alloc | apply Kd.S_drewN | apply Kd.S_drew)); exact HO_3.out) gb102 (Nat.le_of_eq hg.symm)) hb); have n1_ := Aside0.mk (below_step (by repeat (first | (with_reducible first | exact HB.out | apply below_alloc | apply pw_below_drewN | apply below_drew1) | exact HB.out)) hb); have n2_ := Aside0.mk (hbox); have n3_ := Aside0.mk ((by rw [hg]; exact (below_size (by repeat (first | (with_reducible first | exact HB.out | apply below_alloc | apply pw_below_drewN | apply below_drew1) | exact HB.out))) : w.heap.size ≤ gb102)); have n4_ := Aside0.mk ((by rw [hg]; exact (below_size (by repeat (first | (with_reducible first | exact HB.out | apply below_alloc | apply pw_below_drewN | apply below_drew1) | exact HB.out))) : w.heap.size ≤ gb102)); clear HO_3; clear HB; have HO_3 := n0_; have HB := n1_; have BK102 := n2_; have GW102 := n3_; have GE102 := n4_; clear n0_ n1_ n2_ n3_ n4_; clear hb hbox hg; have hcz8_0 : w7.cell? ⟨gb102, 0, none⟩ = some (.int .i64 0) := (blk_cell BK102.out 0).trans rfl; have hcz8_1 : w7.cell? ⟨gb102, 1, none⟩ = some (.int .i64 0) := (blk_cell BK102.out 1).trans rfl; have hcz8_2 : w7.cell? ⟨gb102, 2, none⟩ = some (.string (⟨#[]⟩ : ByteArray)) := (blk_cell BK102.out 2).trans rfl; have hcz8_3 : w7.cell? ⟨gb102, 3, none⟩ = some (.slice none 0 0) := (blk_cell BK102.out 3).trans rfl; have hfz8_0 := blk_frozen BK102.out 0; have hfz8_1 := blk_frozen BK102.out 1; have hfz8_2 := blk_frozen BK102.out 2; have hfz8_3 := blk_frozen BK102.out 3) | ((with_reducible refine gate_callee (f := 25) rfl ?_); refine goesL_ (some 14) rfl rfl Try.func25 (by kernel_rfl) rfl #[.slice A101_3 ((rd_T49 l0 x8_1).f3).length c101_3] rfl (by (try simp only [List.map_toArray, List.map_cons, List.map_nil]); first | done | rfl | (simp only [List.length_drop, List.length_take]; rfl)) ?_; (with_reducible refine (slices_Clone_int64_int64.calls _ _ ((rd_T49 l0 x8_1).f3) t103 _ ?side1 ?side2 A5.out).mono ?_); (case side1 => exact Kd.C_below HR101_3.out (by repeat (first | (with_reducible first | exact HB.out | apply below_alloc | apply pw_below_drewN | apply below_drew1 | refine below_set ?_ GE102.out) | exact HB.out))); (case side2 => exact HC101_3.out); rintro e w9 ⟨v104, rfl, ho0, hb⟩; refine ⟨_, rfl, ?_⟩; have n0_ := Aside0.mk (Kd.S_elder' (by (with_reducible repeat (first | apply Kd.S_alloc | apply Kd.S_drewN | apply Kd.S_drew)); exact (Kd.S_mono (Kd.S_far (p := ⟨gb102, 3, none⟩) (Kd.S_far (p := ⟨gb102, 2, none⟩) (Kd.S_far (p := ⟨gb102, 1, none⟩) (Kd.S_far (p := ⟨gb102, 0, none⟩) (Kd.S_mono HO_3.out (fun k_ hk => (⟨hk, hk.2⟩ : _ ∧ k_ ≠ gb102))) (fun _ hk => hk.2) (.int .i64 ((rd_T49 l0 x8_1).f0))) (fun _ hk => hk.2) (.int .i64 ((rd_T49 l0 x8_1).f1))) (fun _ hk => hk.2) (.string ((rd_T49 l0 x8_1).f2))) (fun _ hk => hk.2) (.slice A101_3 ((rd_T49 l0 x8_1).f3).length c101_3)) (fun _ h_ => h_.1))) (Kd.R_base ho0) hb); have n1_ := Aside0.mk (Kd.R_lower ho0 (below_size (by repeat (first | (with_reducible first | exact HB.out | apply below_alloc | apply pw_below_drewN | apply below_drew1 | refine below_set ?_ GE102.out) | exact HB.out)))); have n2_ := Aside0.mk (blk_below (g := gb102) (o := .cells #[.int .i64 ((rd_T49 l0 x8_1).f0), .int .i64 ((rd_T49 l0 x8_1).f1), .string ((rd_T49 l0 x8_1).f2), .slice A101_3 ((rd_T49 l0 x8_1).f3).length c101_3] 49 (0, 0)) (by (with_reducible repeat (first | refine blk_drewN ?_ _ | refine blk_drew ?_ | refine blk_alloc ?_ _)); refine blk_put (cs := #[.int .i64 ((rd_T49 l0 x8_1).f0), .int .i64 ((rd_T49 l0 x8_1).f1), .string ((rd_T49 l0 x8_1).f2), .slice none 0 0]) ?_ 3 _ rfl; (with_reducible repeat (first | refine blk_drewN ?_ _ | refine blk_drew ?_ | refine blk_alloc ?_ _)); refine blk_put (cs := #[.int .i64 ((rd_T49 l0 x8_1).f0), .int .i64 ((rd_T49 l0 x8_1).f1), .string (⟨#[]⟩ : ByteArray), .slice none 0 0]) ?_ 2 _ rfl; (with_reducible repeat (first | refine blk_drewN ?_ _ | refine blk_drew ?_ | refine blk_alloc ?_ _)); refine blk_put (cs := #[.int .i64 ((rd_T49 l0 x8_1).f0), .int .i64 0, .string (⟨#[]⟩ : ByteArray), .slice none 0 0]) ?_ 1 _ rfl; (with_reducible repeat (first | refine blk_drewN ?_ _ | refine blk_drew ?_ | refine blk_alloc ?_ _)); refine blk_put (cs := #[.int .i64 0, .int .i64 0, .string (⟨#[]⟩ : ByteArray), .slice none 0 0]) ?_ 0 _ rfl; (with_reducible repeat (first | refine blk_drewN ?_ _ | refine blk_drew ?_ | refine blk_alloc ?_ _)); exact BK102.out) hb); have n3_ := Aside0.mk (below_step (by repeat (first | (with_reducible first | exact HB.out | apply below_alloc | apply pw_below_drewN | apply below_drew1 | refine below_set ?_ GE102.out) | exact HB.out)) hb); clear HO_3; clear BK102; clear HB; have HO_3 := n0_; have HO105 := n1_; have BK102 := n2_; have HB := n3_; clear n0_ n1_ n2_ n3_; (try clear hb); (try clear hb2); (try clear hk); (try clear hi); (try clear ho0); obtain ⟨Ao10, co10, eo10⟩ := Kd.R_slice HO105.out; subst eo10; have hcz11_0 : w9.cell? ⟨gb102, 0, none⟩ = some (.int .i64 ((rd_T49 l0 x8_1).f0)) := (blk_cell BK102.out 0).trans rfl; have hcz11_1 : w9.cell? ⟨gb102, 1, none⟩ = some (.int .i64 ((rd_T49 l0 x8_1).f1)) := (blk_cell BK102.out 1).trans rfl; have hcz11_2 : w9.cell? ⟨gb102, 2, none⟩ = some (.string ((rd_T49 l0 x8_1).f2)) := (blk_cell BK102.out 2).trans rfl; have hcz11_3 : w9.cell? ⟨gb102, 3, none⟩ = some (.slice A101_3 ((rd_T49 l0 x8_1).f3).length c101_3) := (blk_cell BK102.out 3).trans rfl; have hfz11_0 := blk_frozen BK102.out 0; have hfz11_1 := blk_frozen BK102.out 1; have hfz11_2 := blk_frozen BK102.out 2; have hfz11_3 := blk_frozen BK102.out 3) | ((with_reducible refine gate_store (t := 47) (p := 15) rfl ?_); refine store_event (t := 47) (p := 15) (v := ?vo_w12) (w1 := (w9.setCell ⟨gb102, 3, none⟩ (.slice Ao10 t103.length co10))) ?hg ?ho ?hn ?hr ?_; (case ho => rfl); (case hg => rfl); (case hn => rfl); (case hr => first | (go_simp; done) | (go_simp; rfl)); intro w12 hw; have n0_ : Aside0 (Kd.S k49 49 w12 w.heap.size (fun k_ => some k_ ≠ (.slice Ao10 t103.length co10 : Value).ownBlock ∧ k_ ≠ gb102) u3 x3_1) := ⟨(by rw [hw]; exact (by (with_reducible repeat (first | apply Kd.S_alloc | apply Kd.S_drewN | apply Kd.S_drew)); exact Kd.S_mono (Kd.S_far (p := ⟨gb102, 3, none⟩) (Kd.S_mono HO_3.out (fun k_ hk => (⟨hk, hk.1.2⟩ : _ ∧ k_ ≠ gb102))) (fun _ hk => hk.2) (.slice Ao10 t103.length co10)) (fun _ hk => ⟨hk.1.2, hk.1.1.2⟩)))⟩; have n1_ : Aside0 (Kd.R (Kd.int .i64) 2 w12 w.heap.size (fun _ => True) (.slice Ao10 t103.length co10) t103) := ⟨(by rw [hw]; exact (by (with_reducible repeat (first | apply Kd.R_alloc | apply Kd.R_drewN | apply Kd.R_drew)); exact Kd.R_mono (Kd.R_far (p := ⟨gb102, 3, none⟩) (Kd.R_types HO105.out BK102.out (by decide)) (fun _ hk => hk.2) (.slice Ao10 t103.length co10)) (fun _ hk => trivial)))⟩; have n2_ : Aside0 (w12.heap[gb102]? = some (.cells #[.int .i64 ((rd_T49 l0 x8_1).f0), .int .i64 ((rd_T49 l0 x8_1).f1), .string ((rd_T49 l0 x8_1).f2), .slice Ao10 t103.length co10] 49 (0, 0))) := ⟨(by rw [hw]; exact (by (with_reducible repeat (first | refine blk_drewN ?_ _ | refine blk_drew ?_ | refine blk_alloc ?_ _)); refine blk_put (cs := #[.int .i64 ((rd_T49 l0 x8_1).f0), .int .i64 ((rd_T49 l0 x8_1).f1), .string ((rd_T49 l0 x8_1).f2), .slice A101_3 ((rd_T49 l0 x8_1).f3).length c101_3]) ?_ 3 _ rfl; (with_reducible repeat (first | refine blk_drewN ?_ _ | refine blk_drew ?_ | refine blk_alloc ?_ _)); exact BK102.out))⟩; have n3_ : Aside0 (Below w.heap.size w w12) := ⟨(by rw [hw]; exact (by repeat (first | (with_reducible first | exact HB.out | apply below_alloc | apply pw_below_drewN | apply below_drew1 | refine below_set ?_ GE102.out) | exact HB.out)))⟩; clear hw; clear HO_3; clear HO105; clear BK102; clear HB; have HO_3 := n0_; have HO105 := n1_; have BK102 := n2_; have HB := n3_; clear n0_ n1_ n2_ n3_; have hcz13_0 : w12.cell? ⟨gb102, 0, none⟩ = some (.int .i64 ((rd_T49 l0 x8_1).f0)) := (blk_cell BK102.out 0).trans rfl; have hcz13_1 : w12.cell? ⟨gb102, 1, none⟩ = some (.int .i64 ((rd_T49 l0 x8_1).f1)) := (blk_cell BK102.out 1).trans rfl; have hcz13_2 : w12.cell? ⟨gb102, 2, none⟩ = some (.string ((rd_T49 l0 x8_1).f2)) := (blk_cell BK102.out 2).trans rfl; have hcz13_3 : w12.cell? ⟨gb102, 3, none⟩ = some (.slice Ao10 t103.length co10) := (blk_cell BK102.out 3).trans rfl; have hfz13_0 := blk_frozen BK102.out 0; have hfz13_1 := blk_frozen BK102.out 1; have hfz13_2 := blk_frozen BK102.out 2; have hfz13_3 := blk_frozen BK102.out 3) | ((with_reducible refine gate_builtin (b := .append) (xs := #[.tmp 16, .tmp 18]) rfl ?_); at_builtin; refine Kd.S_append k49 (w0 := w) w.heap.size rfl (.tmp 16) (.tmp 18) 28 49 (.agg #[(.int .i64 0), (.int .i64 0), (.string ⟨#[]⟩), (.slice none 0 0)]) 56 rfl Try.underlying28 info49 rfl (by decide) (by omega) u3 x3_1 (⟨(rd_T49 l0 x8_1).f0, (rd_T49 l0 x8_1).f1, (rd_T49 l0 x8_1).f2, t103⟩ : S49) [.int .i64 ((rd_T49 l0 x8_1).f0), .int .i64 ((rd_T49 l0 x8_1).f1), .string ((rd_T49 l0 x8_1).f2), .slice Ao10 t103.length co10] (fun k_ => k_ ≠ gb102) (fun k_ => some k_ = (.slice Ao10 t103.length co10 : Value).ownBlock) rfl rfl ?aP (fun k_ hk_ => ((Kd.R_mono (ok' := fun k_ => ((fun k_ => k_ ≠ gb102)) k_ ∧ some k_ ≠ (u3 : Value).ownBlock) (Kd.R_types (Kd.R_apart' (HO105.out) (Kd.S_typed HO_3.out) (by decide)) BK102.out (by decide)) (fun k_ hk => ⟨hk.2, hk.1.2⟩))).1 k_ hk_.symm) ?aF ?aO ?aB ?aS ?aL ?_; (case aP => exact k49_mkM _ _ _ (⟨(rd_T49 l0 x8_1).f0, (rd_T49 l0 x8_1).f1, (rd_T49 l0 x8_1).f2, t103⟩ : S49) (Kd.R_mono (Kd.R_tight rfl (Kd.R_mono (ok' := fun k_ => ((fun k_ => k_ ≠ gb102)) k_ ∧ some k_ ≠ (u3 : Value).ownBlock) (Kd.R_types (Kd.R_apart' (HO105.out) (Kd.S_typed HO_3.out) (by decide)) BK102.out (by decide)) (fun k_ hk => ⟨hk.2, hk.1.2⟩))) (fun _ h_ => h_))); (case aB => exact (by repeat (first | (with_reducible first | exact HB.out | apply below_alloc | apply pw_below_drewN | apply below_drew1 | refine below_set ?_ GE102.out) | exact HB.out))); (case aF => exact (fun k_ hk => Kd.freshB (g := gb102) (o := .cells #[.int .i64 ((rd_T49 l0 x8_1).f0), .int .i64 ((rd_T49 l0 x8_1).f1), .string ((rd_T49 l0 x8_1).f2), .slice Ao10 t103.length co10] 49 (0, 0)) (by (with_reducible repeat (first | refine blk_drewN ?_ _ | refine blk_drew ?_ | refine blk_alloc ?_ _)); exact BK102.out) k_ hk)); (case aO => exact (by (with_reducible repeat (first | apply Kd.S_alloc | apply Kd.S_drewN | apply Kd.S_drew)); exact Kd.S_mono HO_3.out (fun k_ hk => ⟨hk.2, fun e_ => hk.1 e_⟩))); (case aS => exact (below_size (by repeat (first | (with_reducible first | exact HB.out | apply below_alloc | apply pw_below_drewN | apply below_drew1 | refine below_set ?_ GE102.out) | exact HB.out)))); (case aL => have := LMc6.out; omega); intro v107 w14 ho hb hg hat; rw [← Ny106.out] at ho; have n0_ := Aside0.mk (blk_grown (g := gb102) (o := .cells #[.int .i64 ((rd_T49 l0 x8_1).f0), .int .i64 ((rd_T49 l0 x8_1).f1), .string ((rd_T49 l0 x8_1).f2), .slice Ao10 t103.length co10] 49 (0, 0)) (by (with_reducible repeat (first | refine blk_drewN ?_ _ | refine blk_drew ?_ | refine blk_alloc ?_ _)); exact BK102.out) hg (Kd.S_away HO_3.out (fun _ hk => hk.2))); have n1_ := Aside0.mk (hb); have n2_ := Aside0.mk (ho); clear BK102; clear HB; clear HO_3; clear HO105; have BK102 := n0_; have HB := n1_; have HO108 := n2_; clear n0_ n1_ n2_; clear ho hb hg hat))
              go_roundg k1
              case measure => have := HK1.out; omega
              case rel => exact ⟨(y106), (wrap64 (x8_1 + 1)), (by first | rfl | (simp; done) | (simp [*]; done)), H', ⟨by have := HK1.out; omega⟩, ⟨by (with_reducible repeat (first | apply Kd.S_alloc | apply Kd.S_drewN | apply Kd.S_drew)); exact Kd.S_mono HO108.out (fun _ hk => trivial)⟩, ⟨by repeat (first | (with_reducible first | exact HB.out | apply below_alloc | apply pw_below_drewN | apply below_drew1 | refine below_set ?_ GE102.out) | exact HB.out)⟩⟩
            · rw [if_neg c6] at H
              exact absurd H (by simp)
          · rw [if_neg c4] at H
            exact absurd H (by simp)
        · rw [if_neg c3] at H
          exact absurd H (by simp)
      · rw [if_neg c2] at H
        have c2b0 : decide (x8_1 < (l0.length : Int)) = false := decide_eq_false c2
        clear c2
        obtain rfl := Option.some.inj H
        go_wp2
        go_ret
        exact ⟨_, by first | rfl | (simp [errW_none, errW_some] <;> rfl) | (simp [*, errW_none, errW_some] <;> rfl), by (with_reducible repeat (first | apply Kd.S_alloc | apply Kd.S_drewN | apply Kd.S_drew)); exact HO_3.out, by repeat (first | (with_reducible first | exact HB.out | apply below_alloc | apply pw_below_drewN | apply below_drew1) | exact HB.out)⟩
def mail_twin.f (k : Nat) (a0_0 : Int) (a0_1 : ByteArray) (l0_2 : List (S49)) (l0_3 : List (S49)) : Option (Int × ByteArray × (List (S49)) × (List (S49))) := (value_Twin.f k l0_2).bind fun t111 => ((value_Twin.f k l0_3).bind fun t114 => (some (a0_0, a0_1, t111, t114)))
def mail_twin.T1 : Bool × List (List Nat × List Nat) := (true, [([], []), ([0], [0]), ([1], [1]), ([], []), ([3], [3]), ([4, 2], [4]), ([0, 1, 2, 3, 4], []), ([6, 2, 5, 0, 1, 2, 3, 4], [2, 6]), ([0, 1, 2, 3, 4, 5, 6, 7], []), ([8, 5, 7, 0, 1, 2, 3, 4, 5, 6, 7], [5, 8])])
def mail_twin.B1 : List Nat := [0, 1, 3, 0, 8, 31, 31, 127, 255, 511]
theorem mail_twin.tab1 : rtab .any (opsOf Try.f22 1) = mail_twin.T1 := by kernel_rfl
theorem mail_twin.bits1 : waitsOk mail_twin.T1.2 mail_twin.B1 = true := by kernel_rfl
set_option maxHeartbeats 600000 in
set_option maxRecDepth 100000 in
theorem mail_twin.calls (k : Nat) (a0_0 : Int) (a0_1 : ByteArray) (A0_2 : Option Addr) (c0_2 : Nat) (l0_2 : List (S49)) (A0_3 : Option Addr) (c0_3 : Nat) (l0_3 : List (S49)) (r1 : Int) (r2 : ByteArray) (r3 : List (S49)) (r4 : List (S49)) (w : World) (hr0_2 : Kd.C k49 w A0_2 l0_2.length l0_2) (hc0_2 : l0_2.length ≤ c0_2) (hr0_3 : Kd.C k49 w A0_3 l0_3.length l0_3) (hc0_3 : l0_3.length ≤ c0_3) (h : mail_twin.f k a0_0 a0_1 l0_2 l0_3 = some (r1, r2, r3, r4)) :
    Calls Try.prog 22 #[.agg #[.int .i64 a0_0, .string a0_1, .slice A0_2 l0_2.length c0_2, .slice A0_3 l0_3.length c0_3]] w fun e w' => ∃ v2_ v3_ : Value, e = .returned (.agg #[.int .i64 r1, .string r2, v2_, v3_]) ∧ Kd.S k49 49 w' w.heap.size (fun k_ => some k_ ≠ (v3_ : Value).ownBlock) v2_ r3 ∧ Kd.S k49 49 w' w.heap.size (fun k_ => some k_ ≠ (v2_ : Value).ownBlock) v3_ r4 ∧ Below w.heap.size w w' := by
  have hu30 := Try.underlying30
  have HR0_2 := Aside0.mk hr0_2
  have HC0_2 := Aside0.mk hc0_2
  clear hr0_2 hc0_2
  have HR0_3 := Aside0.mk hr0_3
  have HC0_3 := Aside0.mk hc0_3
  clear hr0_3 hc0_3
  have HB := Aside0.mk (Below.refl w.heap.size w)
  have H : ((value_Twin.f k l0_2).bind fun t111 => ((value_Twin.f k l0_3).bind fun t114 => (some (a0_0, a0_1, t111, t114)))) = some (r1, r2, r3, r4) := h
  clear h
  replace H := Option.bind_eq_some_iff.mp H
  obtain ⟨t111, A20, H⟩ := H
  replace H : ((value_Twin.f k l0_3).bind fun t114 => (some (a0_0, a0_1, t111, t114))) = some (r1, r2, r3, r4) := H
  have A2 := Aside0.mk A20
  clear A20
  replace H := Option.bind_eq_some_iff.mp H
  obtain ⟨t114, A30, H⟩ := H
  replace H : (some (a0_0, a0_1, t111, t114)) = some (r1, r2, r3, r4) := H
  have A3 := Aside0.mk A30
  clear A30
  simp only [Option.some.injEq, Prod.mk.injEq] at H
  obtain ⟨rfl, rfl, rfl, rfl⟩ := H
  go_enter Try.func22, Try.ntmps22
  try go_wp2_with (first | ((with_reducible refine gate_dst (N := 1) rfl ?_); refine box_event ?hg (N := 1) ?hd (cs := #[.int .i64 a0_0, .string a0_1, .slice A0_2 l0_2.length c0_2, .slice A0_3 l0_3.length c0_3]) (t := 30) ?hr ?_; (case hd => rfl); (case hg => rfl); (case hr => first | (go_simp; done) | (go_simp; rfl)); intro gb109 hg w4 hbox hb; have n0_ := Aside0.mk (below_step (by repeat (first | (with_reducible first | exact HB.out | apply below_alloc | apply pw_below_drewN | apply below_drew1) | exact HB.out)) hb); have n1_ := Aside0.mk (hbox); have n2_ := Aside0.mk ((by rw [hg]; exact (below_size (by repeat (first | (with_reducible first | exact HB.out | apply below_alloc | apply pw_below_drewN | apply below_drew1) | exact HB.out))) : w.heap.size ≤ gb109)); have n3_ := Aside0.mk ((by rw [hg]; exact (below_size (by repeat (first | (with_reducible first | exact HB.out | apply below_alloc | apply pw_below_drewN | apply below_drew1) | exact HB.out))) : w.heap.size ≤ gb109)); clear HB; have HB := n0_; have BK109 := n1_; have GW109 := n2_; have GE109 := n3_; clear n0_ n1_ n2_ n3_; clear hb hbox hg) | ((with_reducible refine gate_dst (N := 2) rfl ?_); refine box_event ?hg (N := 2) ?hd (cs := #[.int .i64 0, .string (⟨#[]⟩ : ByteArray), .slice none 0 0, .slice none 0 0]) (t := 30) ?hr ?_; (case hd => rfl); (case hg => rfl); (case hr => first | (go_simp; done) | (go_simp; rfl)); intro gb110 hg w5 hbox hb; have n0_ := Aside0.mk (blk_below (g := gb109) (o := .cells #[.int .i64 a0_0, .string a0_1, .slice A0_2 l0_2.length c0_2, .slice A0_3 l0_3.length c0_3] 30 (0, 0)) (by (with_reducible repeat (first | refine blk_drewN ?_ _ | refine blk_drew ?_ | refine blk_alloc ?_ _)); exact BK109.out) hb); have n1_ := Aside0.mk (below_step (by repeat (first | (with_reducible first | exact HB.out | apply below_alloc | apply pw_below_drewN | apply below_drew1 | refine below_set ?_ GE109.out) | exact HB.out)) hb); have n2_ := Aside0.mk (hbox); have n3_ := Aside0.mk ((by rw [hg]; exact (below_size (by repeat (first | (with_reducible first | exact HB.out | apply below_alloc | apply pw_below_drewN | apply below_drew1 | refine below_set ?_ GE109.out) | exact HB.out))) : w.heap.size ≤ gb110)); have n4_ := Aside0.mk ((by rw [hg]; exact (below_size (by repeat (first | (with_reducible first | exact HB.out | apply below_alloc | apply pw_below_drewN | apply below_drew1 | refine below_set ?_ GE109.out) | exact HB.out))) : w.heap.size ≤ gb110)); have n5_ := Aside0.mk ((by rw [hg]; exact Nat.ne_of_lt (blk_lt (g := gb109) (o := .cells #[.int .i64 a0_0, .string a0_1, .slice A0_2 l0_2.length c0_2, .slice A0_3 l0_3.length c0_3] 30 (0, 0)) (by (with_reducible repeat (first | refine blk_drewN ?_ _ | refine blk_drew ?_ | refine blk_alloc ?_ _)); exact BK109.out)) : gb109 ≠ gb110)); have n6_ := Aside0.mk ((by rw [hg]; exact Nat.ne_of_gt (blk_lt (g := gb109) (o := .cells #[.int .i64 a0_0, .string a0_1, .slice A0_2 l0_2.length c0_2, .slice A0_3 l0_3.length c0_3] 30 (0, 0)) (by (with_reducible repeat (first | refine blk_drewN ?_ _ | refine blk_drew ?_ | refine blk_alloc ?_ _)); exact BK109.out)) : gb110 ≠ gb109)); clear BK109; clear HB; have BK109 := n0_; have HB := n1_; have BK110 := n2_; have GW110 := n3_; have GE110 := n4_; have NB109_110 := n5_; have NB110_109 := n6_; clear n0_ n1_ n2_ n3_ n4_ n5_ n6_; clear hb hbox hg))
  have n0_ := Aside0.mk (blk_drew BK109.out)
  have n1_ := Aside0.mk (blk_drew BK110.out)
  have n2_ := Aside0.mk (below_drew1 HB.out)
  clear BK109
  clear BK110
  clear HB
  have BK109 := n0_
  have BK110 := n1_
  have HB := n2_
  clear n0_ n1_ n2_
  refine start_ (n := 10) (S := fun w' => w'.cell? ⟨gb109, 0, none⟩ = some (.int .i64 a0_0) ∧ w'.cell? ⟨gb109, 1, none⟩ = some (.string a0_1) ∧ w'.cell? ⟨gb109, 2, none⟩ = some (.slice A0_2 l0_2.length c0_2) ∧ w'.cell? ⟨gb109, 3, none⟩ = some (.slice A0_3 l0_3.length c0_3)) (ds := [7, 9]) #[false, false, false, false, false, false, false, false, false, false] (by kernel_rfl) rfl rfl ⟨(blk_cell BK109.out 0).trans rfl, (blk_cell BK109.out 1).trans rfl, (blk_cell BK109.out 2).trans rfl, (blk_cell BK109.out 3).trans rfl⟩ (fun hHeld => ?_); refine with_tabW mail_twin.tab1 mail_twin.bits1 (fun HT_ HW_ => ?_)
  generalize w5.drew = w6 at BK109 BK110 HB hHeld ⊢
  refine pure_ (i := 0) (N := some 3) (v := ?_) (a' := ?_) #[true, false, false, false, false, false, false, false, false, false] rfl rfl (any_of HT_.out (by kernel_rfl)) (fun _ _ _ h => h) (Or.inl ⟨by rfl, ?_⟩) ?_ ?_
  rotate_left
  · intro w'
    go_simp
    with_reducible rfl
  rotate_left
  · simp only [Act.put, List.setIfInBounds_toArray, List.set_cons_zero, List.set_cons_succ, i64_w, i32_w]
    rfl
  refine pure_ (i := 3) (N := some 6) (v := ?_) (a' := ?_) #[true, false, false, true, false, false, false, false, false, false] rfl rfl (any_of HT_.out (by kernel_rfl)) (fun _ _ _ h => h) (Or.inl ⟨by rfl, ?_⟩) ?_ ?_
  rotate_left
  · intro w'
    go_simp
    with_reducible rfl
  rotate_left
  · simp only [Act.put, List.setIfInBounds_toArray, List.set_cons_zero, List.set_cons_succ, i64_w, i32_w]
    rfl
  refine take_ (i := 1) (N := some 4) (v := ?_) (a' := ?_) #[true, true, false, true, false, false, false, false, false, false] rfl rfl (take_ofW HT_.out HW_.out (by kernel_rfl)) (fun _ _ _ h => h) (Or.inl ⟨by rfl, ?_⟩) hHeld ?_ ?_
  rotate_left
  · rintro w' ⟨s0, s1, s2, s3⟩
    go_simp
    with_reducible rfl
  rotate_left
  · simp only [Act.put, List.setIfInBounds_toArray, List.set_cons_zero, List.set_cons_succ, i64_w, i32_w]
    rfl
  refine take_ (i := 4) (N := some 7) (v := ?_) (a' := ?_) #[true, true, false, true, true, false, false, false, false, false] rfl rfl (take_ofW HT_.out HW_.out (by kernel_rfl)) (fun _ _ _ h => h) (Or.inl ⟨by rfl, ?_⟩) hHeld ?_ ?_
  rotate_left
  · rintro w' ⟨s0, s1, s2, s3⟩
    go_simp
    with_reducible rfl
  rotate_left
  · simp only [Act.put, List.setIfInBounds_toArray, List.set_cons_zero, List.set_cons_succ, i64_w, i32_w]
    rfl
  refine one_ (i := 2) (N := some 5) #[true, true, true, true, true, false, false, false, false, false] rfl rfl (one_of HT_.out (by kernel_rfl)) (by decide) (fun K hK => ?_)
  refine goes_ Try.func24 (by kernel_rfl) rfl #[.slice A0_2 l0_2.length c0_2] (by rfl) rfl rfl (by (try simp only [List.map_toArray, List.map_cons, List.map_nil]); first | done | rfl | (simp only [List.length_drop, List.length_take]; rfl)) ?_
  with_reducible refine (value_Twin.calls k _ _ l0_2 t111 _ ?side1 ?side2 A2.out).mono ?_
  (case side1 => repeat (first | exact (Kd.C_below HR0_2.out HB.out) | (with_reducible refine Kd.C_alloc ?_ _) | (with_reducible refine Kd.C_drewN ?_ _) | (with_reducible refine Kd.C_drew ?_)))
  (case side2 => exact HC0_2.out)
  rintro e w7 ⟨v112, rfl, ho0, hb⟩
  refine ⟨_, rfl, ?_⟩
  have n0_ := Aside0.mk (Kd.S_lower ho0 (below_size (by repeat (first | (with_reducible first | exact HB.out | apply below_alloc | apply pw_below_drewN | apply below_drew1 | refine below_set ?_ GE109.out | refine below_set ?_ GE110.out) | exact HB.out))))
  have n1_ := Aside0.mk (blk_below (g := gb109) (o := .cells #[.int .i64 a0_0, .string a0_1, .slice A0_2 l0_2.length c0_2, .slice A0_3 l0_3.length c0_3] 30 (0, 0)) (by (with_reducible repeat (first | refine blk_drewN ?_ _ | refine blk_drew ?_ | refine blk_alloc ?_ _)); exact BK109.out) hb)
  have n2_ := Aside0.mk (blk_below (g := gb110) (o := .cells #[.int .i64 0, .string (⟨#[]⟩ : ByteArray), .slice none 0 0, .slice none 0 0] 30 (0, 0)) (by (with_reducible repeat (first | refine blk_drewN ?_ _ | refine blk_drew ?_ | refine blk_alloc ?_ _)); exact BK110.out) hb)
  have n3_ := Aside0.mk (below_step (by repeat (first | (with_reducible first | exact HB.out | apply below_alloc | apply pw_below_drewN | apply below_drew1 | refine below_set ?_ GE109.out | refine below_set ?_ GE110.out) | exact HB.out)) hb)
  clear BK109
  clear BK110
  clear HB
  have HO113 := n0_
  have BK109 := n1_
  have BK110 := n2_
  have HB := n3_
  clear n0_ n1_ n2_ n3_
  (try clear hb)
  (try clear hb2)
  (try clear hk)
  (try clear hi)
  (try clear ho0)
  refine hK.out _ _ ⟨(blk_cell BK109.out 0).trans rfl, (blk_cell BK109.out 1).trans rfl, (blk_cell BK109.out 2).trans rfl, (blk_cell BK109.out 3).trans rfl⟩ (fun hHeld => ?_)
  clear hK K
  refine norm_ (a' := ?_) ?_ ?_
  rotate_left
  · show Act.put _ (some 5) _ = _
    simp only [Act.put, List.setIfInBounds_toArray, List.set_cons_zero, List.set_cons_succ, i64_w, i32_w]
    rfl
  refine pure_ (i := 6) (N := some 9) (v := ?_) (a' := ?_) #[true, true, true, true, true, false, true, false, false, false] rfl rfl (any_of HT_.out (by kernel_rfl)) (fun _ _ _ h => h) (Or.inl ⟨by rfl, ?_⟩) ?_ ?_
  rotate_left
  · intro w'
    go_simp
    with_reducible rfl
  rotate_left
  · simp only [Act.put, List.setIfInBounds_toArray, List.set_cons_zero, List.set_cons_succ, i64_w, i32_w]
    rfl
  refine one_ (i := 5) (N := some 8) #[true, true, true, true, true, true, true, false, false, false] rfl rfl (one_of HT_.out (by kernel_rfl)) (by decide) (fun K hK => ?_)
  refine goes_ Try.func24 (by kernel_rfl) rfl #[.slice A0_3 l0_3.length c0_3] (by rfl) rfl rfl (by (try simp only [List.map_toArray, List.map_cons, List.map_nil]); first | done | rfl | (simp only [List.length_drop, List.length_take]; rfl)) ?_
  with_reducible refine (value_Twin.calls k _ _ l0_3 t114 _ ?side1 ?side2 A3.out).mono ?_
  (case side1 => repeat (first | exact (Kd.C_below HR0_3.out HB.out) | (with_reducible refine Kd.C_alloc ?_ _) | (with_reducible refine Kd.C_drewN ?_ _) | (with_reducible refine Kd.C_drew ?_)))
  (case side2 => exact HC0_3.out)
  rintro e w8 ⟨v115, rfl, ho0, hb⟩
  refine ⟨_, rfl, ?_⟩
  have n0_ := Aside0.mk (Kd.S_elder' (by (with_reducible repeat (first | apply Kd.S_alloc | apply Kd.S_drewN | apply Kd.S_drew)); exact HO113.out) (Kd.S_base ho0) hb)
  have n1_ := Aside0.mk (Kd.S_lower (Kd.S_new' ho0 (Kd.S_lt (by (with_reducible repeat (first | apply Kd.S_alloc | apply Kd.S_drewN | apply Kd.S_drew)); exact HO113.out))) (below_size (by repeat (first | (with_reducible first | exact HB.out | apply below_alloc | apply pw_below_drewN | apply below_drew1 | refine below_set ?_ GE109.out | refine below_set ?_ GE110.out) | exact HB.out))))
  have n2_ := Aside0.mk (blk_below (g := gb109) (o := .cells #[.int .i64 a0_0, .string a0_1, .slice A0_2 l0_2.length c0_2, .slice A0_3 l0_3.length c0_3] 30 (0, 0)) (by (with_reducible repeat (first | refine blk_drewN ?_ _ | refine blk_drew ?_ | refine blk_alloc ?_ _)); exact BK109.out) hb)
  have n3_ := Aside0.mk (blk_below (g := gb110) (o := .cells #[.int .i64 0, .string (⟨#[]⟩ : ByteArray), .slice none 0 0, .slice none 0 0] 30 (0, 0)) (by (with_reducible repeat (first | refine blk_drewN ?_ _ | refine blk_drew ?_ | refine blk_alloc ?_ _)); exact BK110.out) hb)
  have n4_ := Aside0.mk (below_step (by repeat (first | (with_reducible first | exact HB.out | apply below_alloc | apply pw_below_drewN | apply below_drew1 | refine below_set ?_ GE109.out | refine below_set ?_ GE110.out) | exact HB.out)) hb)
  clear HO113
  clear BK109
  clear BK110
  clear HB
  have HO113 := n0_
  have HO116 := n1_
  have BK109 := n2_
  have BK110 := n3_
  have HB := n4_
  clear n0_ n1_ n2_ n3_ n4_
  (try clear hb)
  (try clear hb2)
  (try clear hk)
  (try clear hi)
  (try clear ho0)
  obtain ⟨Ao9, co9, eo9⟩ := Kd.S_slice HO113.out
  (first | subst eo9 | (injection eo9 with f1_ f2_ f3_; have f4_ := f1_.symm; have f5_ := f3_.symm; clear f1_ f2_ f3_; subst f4_; subst f5_))
  obtain ⟨Ao11, co11, eo11⟩ := Kd.S_slice HO116.out
  (first | subst eo11 | (injection eo11 with f1_ f2_ f3_; have f4_ := f1_.symm; have f5_ := f3_.symm; clear f1_ f2_ f3_; subst f4_; subst f5_))
  refine hK.out _ _ ⟨(blk_cell BK109.out 0).trans rfl, (blk_cell BK109.out 1).trans rfl, (blk_cell BK109.out 2).trans rfl, (blk_cell BK109.out 3).trans rfl⟩ (fun hHeld => ?_)
  clear hK K
  refine norm_ (a' := ?_) ?_ ?_
  rotate_left
  · show Act.put _ (some 8) _ = _
    simp only [Act.put, List.setIfInBounds_toArray, List.set_cons_zero, List.set_cons_succ, i64_w, i32_w]
    rfl
  refine last_ (i := 7) (N := none) #[true, true, true, true, true, true, true, true, false, false] rfl rfl (one_of HT_.out (by kernel_rfl)) (by decide) (fun K hK => ?_)
  have hs10 : w8.cell? ⟨gb109, 2, none⟩ = some (.slice A0_2 l0_2.length c0_2) := (blk_cell BK109.out 2).trans rfl
  have hfs10 := blk_frozen BK109.out 2
  have hns10_1 := NB110_109.out
  have hms10_1 := NB109_110.out
  refine skip_ (w1 := ?_) (by rfl) rfl ?_ ?_
  rotate_left
  · go_simp
    rfl
  refine hK.out _ _ ?_
  clear hK K
  refine pure_ (i := 8) (N := some 10) (v := ?_) (a' := ?_) #[true, true, true, true, true, true, true, true, true, false] rfl rfl (any_of HT_.out (by kernel_rfl)) (fun _ _ _ h => h) (Or.inl ⟨by rfl, ?_⟩) ?_ ?_
  rotate_left
  · intro w'
    go_simp
    with_reducible rfl
  rotate_left
  · simp only [Act.put, List.setIfInBounds_toArray, List.set_cons_zero, List.set_cons_succ, i64_w, i32_w]
    rfl
  refine last_ (i := 9) (N := none) #[true, true, true, true, true, true, true, true, true, true] rfl rfl (one_of HT_.out (by kernel_rfl)) (by decide) (fun K hK => ?_)
  have hs12 : w8.cell? ⟨gb109, 3, none⟩ = some (.slice A0_3 l0_3.length c0_3) := (blk_cell BK109.out 3).trans rfl
  have hfs12 := blk_frozen BK109.out 3
  have hns12_1 := NB110_109.out
  have hms12_1 := NB109_110.out
  refine skip_ (w1 := ?_) (by rfl) rfl ?_ ?_
  rotate_left
  · go_simp
    rfl
  refine hK.out _ _ ?_
  clear hK K
  refine done_ (done_of HT_.out (by kernel_rfl)) ?_
  have hnb13 := NB109_110.out
  have hnc13 := NB110_109.out
  have hcz14_0 : w8.cell? ⟨gb109, 0, none⟩ = some (.int .i64 a0_0) := (blk_cell BK109.out 0).trans rfl
  have hcz14_1 : w8.cell? ⟨gb109, 1, none⟩ = some (.string a0_1) := (blk_cell BK109.out 1).trans rfl
  have hcz14_2 : w8.cell? ⟨gb109, 2, none⟩ = some (.slice A0_2 l0_2.length c0_2) := (blk_cell BK109.out 2).trans rfl
  have hcz14_3 : w8.cell? ⟨gb109, 3, none⟩ = some (.slice A0_3 l0_3.length c0_3) := (blk_cell BK109.out 3).trans rfl
  have hfz14_0 := blk_frozen BK109.out 0
  have hfz14_1 := blk_frozen BK109.out 1
  have hfz14_2 := blk_frozen BK109.out 2
  have hfz14_3 := blk_frozen BK109.out 3
  have hcz15_0 : w8.cell? ⟨gb110, 0, none⟩ = some (.int .i64 0) := (blk_cell BK110.out 0).trans rfl
  have hcz15_1 : w8.cell? ⟨gb110, 1, none⟩ = some (.string (⟨#[]⟩ : ByteArray)) := (blk_cell BK110.out 1).trans rfl
  have hcz15_2 : w8.cell? ⟨gb110, 2, none⟩ = some (.slice none 0 0) := (blk_cell BK110.out 2).trans rfl
  have hcz15_3 : w8.cell? ⟨gb110, 3, none⟩ = some (.slice none 0 0) := (blk_cell BK110.out 3).trans rfl
  have hfz15_0 := blk_frozen BK110.out 0
  have hfz15_1 := blk_frozen BK110.out 1
  have hfz15_2 := blk_frozen BK110.out 2
  have hfz15_3 := blk_frozen BK110.out 3
  try go_wp2
  refine bodyPost_ret (results_cell_row rfl _ _ gb110 30 #[.int .i64 a0_0, .string a0_1, .slice Ao9 t111.length co9, .slice Ao11 t114.length co11] (0, 0) _ rfl (by (with_reducible repeat (first | refine blk_drewN ?_ _ | refine blk_drew ?_ | refine blk_alloc ?_ _)); refine blk_put (cs := #[.int .i64 a0_0, .string a0_1, .slice Ao9 t111.length co9, .slice none 0 0]) ?_ 3 _ rfl; (with_reducible repeat (first | refine blk_drewN ?_ _ | refine blk_drew ?_ | refine blk_alloc ?_ _)); refine blk_put (cs := #[.int .i64 a0_0, .string a0_1, .slice none 0 0, .slice none 0 0]) ?_ 2 _ rfl; (with_reducible repeat (first | refine blk_drewN ?_ _ | refine blk_drew ?_ | refine blk_alloc ?_ _)); refine blk_put (cs := #[.int .i64 a0_0, .string (⟨#[]⟩ : ByteArray), .slice none 0 0, .slice none 0 0]) ?_ 1 _ rfl; (with_reducible repeat (first | refine blk_drewN ?_ _ | refine blk_drew ?_ | refine blk_alloc ?_ _)); refine blk_put (cs := #[.int .i64 0, .string (⟨#[]⟩ : ByteArray), .slice none 0 0, .slice none 0 0]) ?_ 0 _ rfl; (with_reducible repeat (first | refine blk_drewN ?_ _ | refine blk_drew ?_ | refine blk_alloc ?_ _)); refine blk_far ?_ NB110_109.out _; (with_reducible repeat (first | refine blk_drewN ?_ _ | refine blk_drew ?_ | refine blk_alloc ?_ _)); refine blk_far ?_ NB110_109.out _; (with_reducible repeat (first | refine blk_drewN ?_ _ | refine blk_drew ?_ | refine blk_alloc ?_ _)); exact BK110.out) Try.underlying30 rfl (by kernel_rfl)) rfl ?_
  exact ⟨_, _, by first | rfl | (simp [errW_none, errW_some] <;> rfl) | (simp [*, errW_none, errW_some] <;> rfl), by (with_reducible repeat (first | apply Kd.S_alloc | apply Kd.S_drewN | apply Kd.S_drew)); exact Kd.S_mono (Kd.S_far (p := ⟨gb110, 3, none⟩) (Kd.S_far (p := ⟨gb110, 2, none⟩) (Kd.S_far (p := ⟨gb110, 1, none⟩) (Kd.S_far (p := ⟨gb110, 0, none⟩) (Kd.S_far (p := ⟨gb109, 3, none⟩) (Kd.S_far (p := ⟨gb109, 2, none⟩) (Kd.S_types (Kd.S_types HO113.out BK109.out (by decide)) BK110.out (by decide)) (fun _ hk => hk.1.2) (.slice Ao9 t111.length co9)) (fun _ hk => hk.1.2) (.slice Ao11 t114.length co11)) (fun _ hk => hk.2) (.int .i64 a0_0)) (fun _ hk => hk.2) (.string a0_1)) (fun _ hk => hk.2) (.slice Ao9 t111.length co9)) (fun _ hk => hk.2) (.slice Ao11 t114.length co11)) (fun _ hk => hk.1.1.2), by (with_reducible repeat (first | apply Kd.S_alloc | apply Kd.S_drewN | apply Kd.S_drew)); exact Kd.S_mono (Kd.S_far (p := ⟨gb110, 3, none⟩) (Kd.S_far (p := ⟨gb110, 2, none⟩) (Kd.S_far (p := ⟨gb110, 1, none⟩) (Kd.S_far (p := ⟨gb110, 0, none⟩) (Kd.S_far (p := ⟨gb109, 3, none⟩) (Kd.S_far (p := ⟨gb109, 2, none⟩) (Kd.S_types (Kd.S_types HO116.out BK109.out (by decide)) BK110.out (by decide)) (fun _ hk => hk.1.2) (.slice Ao9 t111.length co9)) (fun _ hk => hk.1.2) (.slice Ao11 t114.length co11)) (fun _ hk => hk.2) (.int .i64 a0_0)) (fun _ hk => hk.2) (.string a0_1)) (fun _ hk => hk.2) (.slice Ao9 t111.length co9)) (fun _ hk => hk.2) (.slice Ao11 t114.length co11)) (fun _ hk => hk.1.1.2), by repeat (first | (with_reducible first | exact HB.out | apply below_alloc | apply pw_below_drewN | apply below_drew1 | refine below_set ?_ GE109.out | refine below_set ?_ GE110.out) | exact HB.out)⟩
def switchyardlaw18_short.f (a0_0 : Int) (a0_1 : ByteArray) (l0_2 : List (S49)) (l0_3 : List (S49)) : Option (Bool) := if (l0_2.length : Int) ≤ 30 then (some (decide ((l0_3.length : Int) ≤ 30))) else (some false)
set_option maxHeartbeats 600000 in
set_option maxRecDepth 100000 in
theorem switchyardlaw18_short.calls (a0_0 : Int) (a0_1 : ByteArray) (A0_2 : Option Addr) (c0_2 : Nat) (l0_2 : List (S49)) (A0_3 : Option Addr) (c0_3 : Nat) (l0_3 : List (S49)) (r : Bool) (w : World) (hr0_2 : Kd.C k49 w A0_2 l0_2.length l0_2) (hc0_2 : l0_2.length ≤ c0_2) (hr0_3 : Kd.C k49 w A0_3 l0_3.length l0_3) (hc0_3 : l0_3.length ≤ c0_3) (h : switchyardlaw18_short.f a0_0 a0_1 l0_2 l0_3 = some r) :
    Calls Try.prog 10 #[.agg #[.int .i64 a0_0, .string a0_1, .slice A0_2 l0_2.length c0_2, .slice A0_3 l0_3.length c0_3]] w fun e w' => e = .returned (.bool r) ∧ Below w.heap.size w w' := by
  have hu30 := Try.underlying30
  have HR0_2 := Aside0.mk hr0_2
  have HC0_2 := Aside0.mk hc0_2
  clear hr0_2 hc0_2
  have HR0_3 := Aside0.mk hr0_3
  have HC0_3 := Aside0.mk hc0_3
  clear hr0_3 hc0_3
  have HB := Aside0.mk (Below.refl w.heap.size w)
  have H : (if (l0_2.length : Int) ≤ 30 then (some (decide ((l0_3.length : Int) ≤ 30))) else (some false)) = some r := h
  clear h
  by_cases c2 : (l0_2.length : Int) ≤ 30
  · rw [if_pos c2] at H
    have c2b0 : decide ((l0_2.length : Int) ≤ 30) = true := decide_eq_true c2
    have c2b1 : decide (l0_2.length ≤ 30) = true := decide_eq_true (by omega)
    clear c2
    obtain rfl := Option.some.inj H
    go_enter Try.func10, Try.ntmps10
    go_wp2_with (first | ((with_reducible refine gate_dst (N := 1) rfl ?_); (try (refine gate_guard (by rfl) ?_; dsimp only)); refine box_event ?hg (N := 1) ?hd (cs := #[.int .i64 a0_0, .string a0_1, .slice A0_2 l0_2.length c0_2, .slice A0_3 l0_3.length c0_3]) (t := 30) ?hr ?_; (case hd => rfl); (case hg => rfl); (case hr => first | (go_simp; done) | (go_simp; rfl)); intro gb121 hg w3 hbox hb; have n0_ := Aside0.mk (below_step (by repeat (first | (with_reducible first | exact HB.out | apply below_alloc | apply pw_below_drewN | apply below_drew1) | exact HB.out)) hb); have n1_ := Aside0.mk (hbox); have n2_ := Aside0.mk ((by rw [hg]; exact (below_size (by repeat (first | (with_reducible first | exact HB.out | apply below_alloc | apply pw_below_drewN | apply below_drew1) | exact HB.out))) : w.heap.size ≤ gb121)); have n3_ := Aside0.mk ((by rw [hg]; exact (below_size (by repeat (first | (with_reducible first | exact HB.out | apply below_alloc | apply pw_below_drewN | apply below_drew1) | exact HB.out))) : w.heap.size ≤ gb121)); clear HB; have HB := n0_; have BK121 := n1_; have GW121 := n2_; have GE121 := n3_; clear n0_ n1_ n2_ n3_; clear hb hbox hg; have hcz4_0 : w3.cell? ⟨gb121, 0, none⟩ = some (.int .i64 a0_0) := (blk_cell BK121.out 0).trans rfl; have hcz4_1 : w3.cell? ⟨gb121, 1, none⟩ = some (.string a0_1) := (blk_cell BK121.out 1).trans rfl; have hcz4_2 : w3.cell? ⟨gb121, 2, none⟩ = some (.slice A0_2 l0_2.length c0_2) := (blk_cell BK121.out 2).trans rfl; have hcz4_3 : w3.cell? ⟨gb121, 3, none⟩ = some (.slice A0_3 l0_3.length c0_3) := (blk_cell BK121.out 3).trans rfl; have hfz4_0 := blk_frozen BK121.out 0; have hfz4_1 := blk_frozen BK121.out 1; have hfz4_2 := blk_frozen BK121.out 2; have hfz4_3 := blk_frozen BK121.out 3))
    go_ret
    exact ⟨by first | rfl | (simp [errW_none, errW_some] <;> rfl) | (simp [*, errW_none, errW_some] <;> rfl), by repeat (first | (with_reducible first | exact HB.out | apply below_alloc | apply pw_below_drewN | apply below_drew1 | refine below_set ?_ GE121.out) | exact HB.out)⟩
  · rw [if_neg c2] at H
    have c2b0 : decide ((l0_2.length : Int) ≤ 30) = false := decide_eq_false c2
    have c2b1 : decide (l0_2.length ≤ 30) = false := decide_eq_false (by omega)
    clear c2
    obtain rfl := Option.some.inj H
    go_enter Try.func10, Try.ntmps10
    go_wp2_with (first | ((with_reducible refine gate_dst (N := 1) rfl ?_); (try (refine gate_guard (by rfl) ?_; dsimp only)); refine box_event ?hg (N := 1) ?hd (cs := #[.int .i64 a0_0, .string a0_1, .slice A0_2 l0_2.length c0_2, .slice A0_3 l0_3.length c0_3]) (t := 30) ?hr ?_; (case hd => rfl); (case hg => rfl); (case hr => first | (go_simp; done) | (go_simp; rfl)); intro gb121 hg w5 hbox hb; have n0_ := Aside0.mk (below_step (by repeat (first | (with_reducible first | exact HB.out | apply below_alloc | apply pw_below_drewN | apply below_drew1) | exact HB.out)) hb); have n1_ := Aside0.mk (hbox); have n2_ := Aside0.mk ((by rw [hg]; exact (below_size (by repeat (first | (with_reducible first | exact HB.out | apply below_alloc | apply pw_below_drewN | apply below_drew1) | exact HB.out))) : w.heap.size ≤ gb121)); have n3_ := Aside0.mk ((by rw [hg]; exact (below_size (by repeat (first | (with_reducible first | exact HB.out | apply below_alloc | apply pw_below_drewN | apply below_drew1) | exact HB.out))) : w.heap.size ≤ gb121)); clear HB; have HB := n0_; have BK121 := n1_; have GW121 := n2_; have GE121 := n3_; clear n0_ n1_ n2_ n3_; clear hb hbox hg; have hcz6_0 : w5.cell? ⟨gb121, 0, none⟩ = some (.int .i64 a0_0) := (blk_cell BK121.out 0).trans rfl; have hcz6_1 : w5.cell? ⟨gb121, 1, none⟩ = some (.string a0_1) := (blk_cell BK121.out 1).trans rfl; have hcz6_2 : w5.cell? ⟨gb121, 2, none⟩ = some (.slice A0_2 l0_2.length c0_2) := (blk_cell BK121.out 2).trans rfl; have hcz6_3 : w5.cell? ⟨gb121, 3, none⟩ = some (.slice A0_3 l0_3.length c0_3) := (blk_cell BK121.out 3).trans rfl; have hfz6_0 := blk_frozen BK121.out 0; have hfz6_1 := blk_frozen BK121.out 1; have hfz6_2 := blk_frozen BK121.out 2; have hfz6_3 := blk_frozen BK121.out 3))
    go_ret
    exact ⟨by first | rfl | (simp [errW_none, errW_some] <;> rfl) | (simp [*, errW_none, errW_some] <;> rfl), by repeat (first | (with_reducible first | exact HB.out | apply below_alloc | apply pw_below_drewN | apply below_drew1 | refine below_set ?_ GE121.out) | exact HB.out)⟩
end Go.Proofs.Ythbcekjiljkchaa.XM
namespace Go.Proofs.Ythbcekjiljkchaa.XM
open Go.RowKit Go.Conc Go.Proofs.YthbcekjiljkchaaW.PrintWords Go.Proofs.YthbcekjiljkchaaW.PrintLast Go.Proofs.YthbcekjiljkchaaW.PrintMore Go.Proofs.Ythbcekjiljkchaa.Comm
set_option linter.unusedVariables false
set_option linter.unusedSimpArgs false
/-- A box: its channel's capacity, what lies in it. -/
def BoxAt (w : World) (g c cap : Nat) (buf : Array Value) : Prop := c < g ∧ w.heap[g]? = some (.cells #[.chan (some c)] 53 (0, 0)) ∧ ∃ s r, w.heap[c]? = some (.chan cap buf false s r false)
/-- All that stood stays, but for the channel c. -/
structure But (c : Nat) (w w' : World) : Prop where
  os : w'.os = w.os
  tape : w'.tape = w.tape
  output : w'.output = w.output
  size : w.heap.size ≤ w'.heap.size
  block : ∀ k, k < w.heap.size → k ≠ c → w'.heap[k]? = w.heap[k]?
theorem But.of_below {c : Nat} {w w' : World} (h : Below w.heap.size w w') : But c w w' := ⟨h.os, h.tape, h.output, h.size, fun k hk _ => h.block k hk⟩
theorem But.refl (c : Nat) (w : World) : But c w w := But.of_below (Below.refl _ _)
theorem But.trans {c : Nat} {a b d : World} (h : But c a b) (k : But c b d) : But c a d :=
  ⟨k.os.trans h.os, k.tape.trans h.tape, k.output.trans h.output, Nat.le_trans h.size k.size, fun i hi hc => (k.block i (Nat.lt_of_lt_of_le hi h.size) hc).trans (h.block i hi hc)⟩
theorem But.set {c : Nat} (w : World) (cap : Nat) (buf : Array Value) (s r : Nat) : But c w (w.setChan c cap buf false s r false) :=
  ⟨rfl, rfl, rfl, by simp [World.setChan], fun k _ hk => by simp only [World.setChan]; rw [Array.getElem?_setIfInBounds_ne (fun e => hk e.symm)]⟩
theorem But.below {c B : Nat} {w w' : World} (h : But c w w') (hB : B ≤ c) (hs : B ≤ w.heap.size) : Below B w w' := ⟨h.os, h.tape, h.output, h.size, fun k hk => h.block k (by omega) (by omega)⟩
theorem BoxAt.below {w w' : World} {g c cap : Nat} {buf : Array Value} (h : BoxAt w g c cap buf) (hb : Below w.heap.size w w') : BoxAt w' g c cap buf := by
  obtain ⟨h1, h2, s, r, h3⟩ := h
  exact ⟨h1, blk_below h2 hb, s, r, blk_below h3 hb⟩
theorem BoxAt.set {w : World} {g c cap : Nat} {buf buf' : Array Value} {s r : Nat} (h : BoxAt w g c cap buf) : BoxAt (w.setChan c cap buf' false s r false) g c cap buf' := by
  obtain ⟨h1, h2, s', r', h3⟩ := h
  refine ⟨h1, ?_, s, r, heap_setChan w c cap buf' false s r false (blk_lt h3)⟩
  simp only [World.setChan]
  rw [Array.getElem?_setIfInBounds_ne (by omega)]
  exact h2
/-- A message in the box: its rows are the box's own. -/
def Mrep (w : World) (lo : Nat) (ok : Nat → Prop) (m : S30) (v : Value) : Prop := ∃ v2 v3, v = .agg #[.int .i64 m.f0, .string m.f1, v2, v3] ∧ Kd.R k49 49 w lo ok v2 m.f2 ∧ Kd.R k49 49 w lo ok v3 m.f3
theorem Mrep.wk {w : World} {lo : Nat} {ok ok' : Nat → Prop} {m : S30} {v : Value} (h : Mrep w lo ok m v) (hk : ∀ k, ok k → ok' k) : Mrep w lo ok' m v := by
  obtain ⟨v2, v3, e, h2, h3⟩ := h
  exact ⟨v2, v3, e, Kd.R_mono h2 hk, Kd.R_mono h3 hk⟩
/-- Any change that leaves what is ok, of cells: the channel isn't of them. -/
theorem R_cells {α : Type} {d : Kd α} {e : Nat} {w w1 : World} {base : Nat} {ok : Nat → Prop} {v : Value} {xs : List α} (h : d.R e w base ok v xs) (hm : ∀ k, ok k → base ≤ k → k < w.heap.size → (∃ cs q, w.heap[k]? = some (.cells cs q (0, 0))) → w1.heap[k]? = w.heap[k]?) : d.R e w1 base ok v xs :=
  Kd.R_mono (Kd.R_move (Kd.R_bound h) (fun k hk => by
    obtain ⟨h1, h2, h3, q, _, cs, hc⟩ := hk
    exact hm k h1 h2 h3 ⟨cs, q, hc⟩)) (fun _ hk => hk.1)
theorem Mrep.cells {w w1 : World} {lo : Nat} {ok : Nat → Prop} {m : S30} {v : Value} (h : Mrep w lo ok m v) (hm : ∀ k, ok k → lo ≤ k → k < w.heap.size → (∃ cs q, w.heap[k]? = some (.cells cs q (0, 0))) → w1.heap[k]? = w.heap[k]?) : Mrep w1 lo ok m v := by
  obtain ⟨v2, v3, e, h2, h3⟩ := h
  exact ⟨v2, v3, e, R_cells h2 hm, R_cells h3 hm⟩
def Ms (w : World) (lo : Nat) (ok : Nat → Prop) : List S30 → List Value → Prop
  | [], [] => True
  | m :: ms, v :: vs => Mrep w lo ok m v ∧ Ms w lo ok ms vs
  | _, _ => False
theorem Ms.length {w : World} {lo : Nat} {ok : Nat → Prop} : ∀ {ms : List S30} {vs : List Value}, Ms w lo ok ms vs → vs.length = ms.length
  | [], [], _ => rfl
  | _ :: _, _ :: _, h => by rw [List.length_cons, List.length_cons, Ms.length h.2]
  | [], _ :: _, h => h.elim
  | _ :: _, [], h => h.elim
theorem Ms.imp {w w1 : World} {lo lo' : Nat} {ok ok' : Nat → Prop} (hi : ∀ m v, Mrep w lo ok m v → Mrep w1 lo' ok' m v) : ∀ {ms : List S30} {vs : List Value}, Ms w lo ok ms vs → Ms w1 lo' ok' ms vs
  | [], [], _ => trivial
  | _ :: _, _ :: _, h => ⟨hi _ _ h.1, Ms.imp hi h.2⟩
  | [], _ :: _, h => h.elim
  | _ :: _, [], h => h.elim
theorem Ms.push {w : World} {lo : Nat} {ok : Nat → Prop} {m : S30} {v : Value} (hv : Mrep w lo ok m v) : ∀ {ms : List S30} {vs : List Value}, Ms w lo ok ms vs → Ms w lo ok (ms ++ [m]) (vs ++ [v])
  | [], [], _ => ⟨hv, trivial⟩
  | _ :: _, _ :: _, h => ⟨h.1, Ms.push hv h.2⟩
  | [], _ :: _, h => h.elim
  | _ :: _, [], h => h.elim
/-- A box that is the call's own: its channel's block c (from B on), the messages in it, whose rows are ok. -/
def Box (w : World) (B : Nat) (ok : Nat → Prop) (g c cap : Nat) (ms : List S30) : Prop := B ≤ c ∧ ms.length ≤ cap ∧ cap ≤ 4096 ∧ ∃ vs : List Value, BoxAt w g c cap vs.toArray ∧ Ms w B ok ms vs
theorem Box.wk {w : World} {B : Nat} {ok ok' : Nat → Prop} {g c cap : Nat} {ms : List S30} (h : Box w B ok g c cap ms) (hk : ∀ k, ok k → ok' k) : Box w B ok' g c cap ms := by
  obtain ⟨h1, h2, h3, vs, h4, h5⟩ := h
  exact ⟨h1, h2, h3, vs, h4, h5.imp (fun _ _ hh => hh.wk hk)⟩
theorem BoxAt.cells {w w' : World} {g c cap : Nat} {buf : Array Value} (h : BoxAt w g c cap buf) (hg : w'.heap[g]? = w.heap[g]?) (hc : w'.heap[c]? = w.heap[c]?) : BoxAt w' g c cap buf := by
  obtain ⟨h1, h2, s, r, h3⟩ := h
  exact ⟨h1, hg.trans h2, s, r, hc.trans h3⟩
/-- A change that leaves the channel, the box and what is ok. -/
theorem Box.step {w w' : World} {B : Nat} {ok : Nat → Prop} {g c cap : Nat} {ms : List S30} (h : Box w B ok g c cap ms) (hg : w'.heap[g]? = w.heap[g]?) (hc : w'.heap[c]? = w.heap[c]?) (hm : ∀ k, ok k → B ≤ k → k < w.heap.size → w'.heap[k]? = w.heap[k]?) : Box w' B ok g c cap ms := by
  obtain ⟨h1, h2, h3, vs, h4, h5⟩ := h
  exact ⟨h1, h2, h3, vs, h4.cells hg hc, h5.imp (fun _ _ hh => hh.cells (fun k a b c _ => hm k a b c))⟩
theorem Box.at_ {w : World} {B : Nat} {ok : Nat → Prop} {g c cap : Nat} {ms : List S30} (h : Box w B ok g c cap ms) : B ≤ c ∧ c < g ∧ g < w.heap.size ∧ w.heap[g]? = some (.cells #[.chan (some c)] 53 (0, 0)) := by
  obtain ⟨h1, h2, h3, vs, ⟨h4, h5, s, r, h6⟩, h7⟩ := h
  exact ⟨h1, h4, blk_lt h5, h5⟩
theorem Box.below {w w' : World} {B : Nat} {ok : Nat → Prop} {g c cap : Nat} {ms : List S30} (h : Box w B ok g c cap ms) (hb : Below w.heap.size w w') : Box w' B ok g c cap ms := by
  obtain ⟨_, h2, h3, _⟩ := h.at_
  exact h.step (hb.block g h3) (hb.block c (by omega)) (fun k _ _ hk => hb.block k hk)
/-- What came in, or is the call's own and of cells, stays. -/
theorem R_but {α : Type} {d : Kd α} {e : Nat} {w w1 : World} {base c cap : Nat} {ok : Nat → Prop} {v : Value} {xs : List α} {buf : Array Value} {s r : Nat} (h : d.R e w base ok v xs) (hc : w.heap[c]? = some (.chan cap buf false s r false)) (hb : But c w w1) : d.R e w1 base ok v xs :=
  R_cells h (fun k _ _ hk hcs => hb.block k hk (fun e => by
    obtain ⟨cs, q, hq⟩ := hcs
    rw [e, hc] at hq
    cases hq))
theorem Box.chan {w : World} {B : Nat} {ok : Nat → Prop} {g c cap : Nat} {ms : List S30} (h : Box w B ok g c cap ms) : ∃ buf s r, w.heap[c]? = some (.chan cap buf false s r false) := by
  obtain ⟨_, _, _, vs, ⟨_, _, s, r, h6⟩, _⟩ := h
  exact ⟨_, s, r, h6⟩
theorem heap_setChan_cells {w : World} {c cap cap' : Nat} {buf buf' : Array Value} {s r s' r' : Nat} {k : Nat} (hc : w.heap[c]? = some (.chan cap buf false s r false)) (hk : ∃ cs q, w.heap[k]? = some (.cells cs q (0, 0))) : (w.setChan c cap' buf' false s' r' false).heap[k]? = w.heap[k]? := by
  simp only [World.setChan]
  refine Array.getElem?_setIfInBounds_ne (fun e => ?_)
  obtain ⟨cs, q, hq⟩ := hk
  rw [← e, hc] at hq
  cases hq
/-- A row made by a call from W0 on. -/
theorem R_new {α : Type} {d : Kd α} {e : Nat} {w w1 : World} {base B W0 : Nat} {ok ok0 : Nat → Prop} {v : Value} {xs : List α} (h : d.R e w base ok0 v xs) (hW : W0 ≤ base) (hB : B ≤ base) (hm : ∀ k : Nat, (∃ cs q, w.heap[k]? = some (Obj.cells cs q (0, 0))) → w1.heap[k]? = w.heap[k]?) : d.R e w1 B (fun k => ok k ∨ W0 ≤ k) v xs :=
  Kd.R_lower (Kd.R_mono (Kd.R_bound (R_cells h (fun k _ _ _ hc => hm k hc))) (fun k hk => Or.inr (Nat.le_trans hW hk.2.1))) hB
def room (cap : Nat) (ms : List S30) : Bool := decide (ms.length < cap)
def offered (cap : Nat) (ms : List S30) (m : S30) : List S30 := if ms.length < cap then ms ++ [m] else ms
def z30v : Value := .agg #[.int .i64 0, .string ⟨#[]⟩, .slice none 0 0, .slice none 0 0]
theorem info30 : (Try.prog.info? 30).map (fun i => (i.zero, i.size, i.bytes)) = some (some z30v, 4, 72) := by kernel_rfl
set_option maxHeartbeats 1000000 in
theorem offer (k : Nat) (w : World) (B : Nat) (ok : Nat → Prop) (g c cap : Nat) (ms : List S30) (m : S30) (A2 A3 : Option Addr) (c2 c3 : Nat) (h2 : Kd.C k49 w A2 m.f2.length m.f2) (l2 : m.f2.length ≤ c2) (h3 : Kd.C k49 w A3 m.f3.length m.f3) (l3 : m.f3.length ≤ c3) (hB : Box w B ok g c cap ms) (hBw : B ≤ w.heap.size)
    (ht : mail_twin.f k m.f0 m.f1 m.f2 m.f3 = some (m.f0, m.f1, m.f2, m.f3)) :
    Calls Try.prog 16 #[.pointer (some ⟨g, 0, none⟩), .agg #[.int .i64 m.f0, .string m.f1, .slice A2 m.f2.length c2, .slice A3 m.f3.length c3]] w fun e w' => e = .returned (.bool (room cap ms)) ∧ Box w' B (fun k => ok k ∨ w.heap.size ≤ k) g c cap (offered cap ms m) ∧ But c w w' := by
  have H2 := Aside0.mk h2
  have H3 := Aside0.mk h3
  have L2 := Aside0.mk l2
  have L3 := Aside0.mk l3
  have HT := Aside0.mk ht
  obtain ⟨hBc, hlen, hcap, vs, ⟨hcg, hg, s, r, hc⟩, hms⟩ := hB
  have HMS := Aside0.mk hms
  have hvl := hms.length
  have hq := (blk_cell hg 0).trans rfl
  have hlg := blk_lt hg
  clear h2 h3 l2 l3 ht hms
  refine calls_of_wpN Try.func16 rfl ?_
  simp only [Try.ntmps16, List.size_toArray, List.length_cons, List.length_nil, Nat.reduceAdd, Nat.reduceSub, Array.replicate_succ, Array.replicate_zero, List.push_toArray, List.append_toArray, List.nil_append, List.cons_append]
  refine wpN_seq ?_
  go_wp2
  refine wpN_seq ?_
  go_wp2
  refine wpN_seq ?_
  go_wp2_with (first | ((with_reducible refine gate_callee (f := 22) rfl ?_); refine goesL_ (some 12) rfl rfl Try.func22 (by kernel_rfl) rfl #[.agg #[.int .i64 m.f0, .string m.f1, .slice A2 m.f2.length c2, .slice A3 m.f3.length c3]] rfl (by (try simp only [List.map_toArray, List.map_cons, List.map_nil]); first | done | rfl) ?_; refine (mail_twin.calls k m.f0 m.f1 A2 c2 m.f2 A3 c3 m.f3 _ _ _ _ _ (Kd.C_alloc H2.out _) L2.out (Kd.C_alloc H3.out _) L3.out HT.out).mono ?_; rintro e w5 ⟨v2, v3, rfl, hS2, hS3, hb⟩; refine ⟨_, rfl, ?_⟩))
  have hb0 : Below w.heap.size w w5 := below_step (below_alloc (Below.refl _ _) _) hb
  have hc5 : w5.heap[c]? = some (.chan cap vs.toArray false s r false) := by rw [hb0.block c (by omega)]; exact hc
  by_cases hroom : ms.length < cap
  · refine wpN_send (c := c) (v := .agg #[.int .i64 m.f0, .string m.f1, v2, v3]) (z := z30v) rfl (by simp [go_sem, execOp, scase, Act.eval, Act.put, z30v]) hc5 (by rw [List.size_toArray]; omega) ?_
    have hsel : commResult #[scase c (.agg #[.int .i64 m.f0, .string m.f1, v2, v3]) z30v] .select ((0 : Nat) : Int) undef false = .tuple #[.int .i64 0, .bool false] := by simp [commResult, scase, goInt]
    rw [hsel]
    simp only [Act.put, List.setIfInBounds_toArray, List.set_cons_zero, List.set_cons_succ]
    go_wp2
    refine wpN_of_wp ?_
    go_wp2
    go_ret
    rw [show room cap ms = true from decide_eq_true hroom, show offered cap ms m = ms ++ [m] from if_pos hroom]
    refine ⟨rfl, ⟨hBc, by rw [List.length_append, List.length_singleton]; omega, hcap, vs ++ [.agg #[.int .i64 m.f0, .string m.f1, v2, v3]], ⟨hcg, ?_, s + 1, r, ?_⟩, Ms.push ⟨v2, v3, rfl, ?_, ?_⟩ (HMS.out.imp (fun _ _ hh => (hh.wk (fun k hk => Or.inl hk)).cells ?_))⟩, (But.of_below hb0).trans (But.set _ _ _ _ _)⟩
    · simp only [World.setChan]
      rw [Array.getElem?_setIfInBounds_ne (by omega), hb0.block g hlg]
      exact hg
    · rw [show (vs ++ [Value.agg #[.int .i64 m.f0, .string m.f1, v2, v3]]).toArray = vs.toArray.push (.agg #[.int .i64 m.f0, .string m.f1, v2, v3]) by simp]
      exact heap_setChan w5 c cap _ false (s + 1) r false (blk_lt hc5)
    · exact R_new (Kd.S_R hS2) (below_alloc (Below.refl _ _) _).size (Nat.le_trans (by omega) (below_alloc (Below.refl w.heap.size w) _).size) (fun k hk => heap_setChan_cells hc5 hk)
    · exact R_new (Kd.S_R hS3) (below_alloc (Below.refl _ _) _).size (Nat.le_trans (by omega) (below_alloc (Below.refl w.heap.size w) _).size) (fun k hk => heap_setChan_cells hc5 hk)
    · intro k _ _ hk hcs
      rw [heap_setChan_cells hc5 (by obtain ⟨cs, q, hq⟩ := hcs; exact ⟨cs, q, (hb0.block k hk).trans hq⟩)]
      exact hb0.block k hk
  · refine wpN_full (c := c) (v := .agg #[.int .i64 m.f0, .string m.f1, v2, v3]) (z := z30v) rfl (by simp [go_sem, execOp, scase, Act.eval, Act.put, z30v]) hc5 (by rw [List.size_toArray]; omega) ?_
    have hsel : commResult #[scase c (.agg #[.int .i64 m.f0, .string m.f1, v2, v3]) z30v] .select (-1) undef false = .tuple #[.int .i64 (-1), .bool false] := by simp [commResult, scase, goInt]
    rw [hsel]
    simp only [Act.put, List.setIfInBounds_toArray, List.set_cons_zero, List.set_cons_succ]
    go_wp2
    refine wpN_of_wp ?_
    go_wp2
    go_ret
    rw [show room cap ms = false from decide_eq_false hroom, show offered cap ms m = ms from if_neg hroom]
    have hbox : Box w B ok g c cap ms := ⟨hBc, hlen, hcap, vs, ⟨hcg, hg, s, r, hc⟩, HMS.out⟩
    exact ⟨rfl, (hbox.below hb0).wk (fun k hk => Or.inl hk), But.of_below hb0⟩
end Go.Proofs.Ythbcekjiljkchaa.XM
namespace Go.Proofs.Ythbcekjiljkchaa.XM
open Go.RowKit Go.Conc Go.Proofs.YthbcekjiljkchaaW.PrintWords Go.Proofs.YthbcekjiljkchaaW.PrintLast Go.Proofs.YthbcekjiljkchaaW.PrintMore Go.Proofs.Ythbcekjiljkchaa.Comm
attribute [local go_sem] max2_int min2_int max_two min_two max_three min_three max_four min_four
set_option linter.unusedVariables false
set_option linter.unusedSimpArgs false
/-- A change of one block. -/
structure Only (g : Nat) (w w' : World) : Prop where
  os : w'.os = w.os
  tape : w'.tape = w.tape
  output : w'.output = w.output
  size : w'.heap.size = w.heap.size
  block : ∀ k, k ≠ g → w'.heap[k]? = w.heap[k]?
section
variable {ops : Array Oper} {rest : List Oper} {o : Oper} {a : Act} {Q : Exit → Act → World → Prop} {W : World}
/-- A message is written over a whole block. -/
theorem store30 {p : Tmp} {v : Operand} {g : Nat} {cur : Array Value} {u : Value} {seg : List Value} (ho : o.op = .store 30 (.tmp p) v) (hgd : o.guard = none) (hN : o.dst = none) (hp : a.eval (.tmp p) = .pointer (some ⟨g, 0, none⟩)) (hv : a.eval v = u) (hu : u.cells.toList = seg) (h4 : seg.length = 4) (h1 : ∀ q ∈ seg, q.oneCell' = true) (hh : W.heap[g]? = some (.cells cur 30 (0, 0))) (hc : cur.size = 4)
    (h : ∀ w', Only g W w' → w'.heap[g]? = some (.cells seg.toArray 30 (0, 0)) → wpList Try.prog ops Q rest a w') : wpList Try.prog ops Q (o :: rest) a W := by
  have ht : (Try.prog.info? 30).map (·.size) = some seg.length := by rw [h4]; kernel_rfl
  have hrun := run_store_run (P := Try.prog) (g := g) (o := 0) 30 u seg hh hu ht (by omega) h1
  obtain ⟨s1, s2, s3, s4⟩ := setCells_same g seg 0 W
  obtain ⟨cur', r1, r2, r3⟩ := setCells_row seg 0 W cur hh (by omega)
  have hcur : cur' = seg.toArray := by
    apply Array.toList_inj.1
    rw [r3, List.take_zero, List.nil_append, List.drop_eq_nil_of_le (by rw [Array.length_toList]; omega), List.append_nil]
  refine wpList_plain hgd fun K hK => ?_
  unfold Oper.wp execOp
  simp only [ho, hp, hv, Sem.run_bind, Sem.run_pure, Result.andThen_ok, hrun]
  show K (a.put o.dst undef) _
  rw [hN]
  exact hK a _ (h _ ⟨s1, s2, s3, s4, fun k hk => setCells_far seg 0 k hk⟩ (hcur ▸ r1))
end
theorem But.only {c g : Nat} {w w1 w2 : World} (h : But c w w1) (ho : Only g w1 w2) (hg : w.heap.size ≤ g) : But c w w2 :=
  ⟨ho.os.trans h.os, ho.tape.trans h.tape, ho.output.trans h.output, by rw [ho.size]; exact h.size, fun k hk hc => (ho.block k (by omega)).trans (h.block k hk hc)⟩
set_option maxHeartbeats 1000000 in
theorem take_some (w : World) (B : Nat) (ok : Nat → Prop) (g c cap : Nat) (m : S30) (ms : List S30) (hB : Box w B ok g c cap (m :: ms)) (hBw : B ≤ w.heap.size) :
    Calls Try.prog 11 #[.pointer (some ⟨g, 0, none⟩)] w fun e w' => ∃ v, e = .returned (.tuple #[v, .bool true]) ∧ Mrep w' B ok m v ∧ Box w' B ok g c cap ms ∧ But c w w' := by
  obtain ⟨hBc, hlen, hcap, vs, ⟨hcg, hg, s, r, hc⟩, hms⟩ := hB
  rcases vs with _ | ⟨v0, vs⟩
  · exact hms.elim
  obtain ⟨v2, v3, rfl, hr2, hr3⟩ := hms.1
  obtain ⟨A2, c2, rfl⟩ := Kd.R_slice hr2
  obtain ⟨A3, c3, rfl⟩ := Kd.R_slice hr3
  have HR2 := Aside0.mk hr2
  have HR3 := Aside0.mk hr3
  have HMS := Aside0.mk hms.2
  have hq := (blk_cell hg 0).trans rfl
  have hlg := blk_lt hg
  clear hms hr2 hr3
  refine calls_of_wpN Try.func11 rfl ?_
  simp only [Try.ntmps11, List.size_toArray, List.length_cons, List.length_nil, Nat.reduceAdd, Nat.reduceSub, Array.replicate_succ, Array.replicate_zero, List.push_toArray, List.append_toArray, List.nil_append, List.cons_append]
  refine wpN_seq ?_
  go_wp2
  refine wpN_seq ?_
  go_wp2
  refine wpN_seq ?_
  go_wp2
  have hb0 : Below w.heap.size w (w.alloc (.cells #[.int .i64 0, .string ⟨#[]⟩, .slice none 0 0, .slice none 0 0] 30)) := below_alloc (Below.refl _ _) _
  have hc1 : (w.alloc (.cells #[.int .i64 0, .string ⟨#[]⟩, .slice none 0 0, .slice none 0 0] 30)).heap[c]? = some (.chan cap (Value.agg #[.int .i64 m.f0, .string m.f1, .slice A2 m.f2.length c2, .slice A3 m.f3.length c3] :: vs).toArray false s r false) := by rw [hb0.block c (by omega)]; exact hc
  have hn : (w.alloc (.cells #[.int .i64 0, .string ⟨#[]⟩, .slice none 0 0, .slice none 0 0] 30)).heap[w.heap.size]? = some (.cells #[.int .i64 0, .string ⟨#[]⟩, .slice none 0 0, .slice none 0 0] 30) := heap_alloc_new w _
  refine wpN_recv (c := c) (z := z30v) rfl (by simp [go_sem, execOp, rcase, Act.eval, Act.put, z30v]) hc1 (by simp) ?_
  have hsel : commResult #[rcase c z30v] .select ((0 : Nat) : Int) ((Value.agg #[.int .i64 m.f0, .string m.f1, .slice A2 m.f2.length c2, .slice A3 m.f3.length c3] :: vs).toArray.getD 0 undef) true = .tuple #[.int .i64 0, .bool true, .agg #[.int .i64 m.f0, .string m.f1, .slice A2 m.f2.length c2, .slice A3 m.f3.length c3]] := by simp [commResult, rcase, goInt]
  have hbuf : (Value.agg #[.int .i64 m.f0, .string m.f1, .slice A2 m.f2.length c2, .slice A3 m.f3.length c3] :: vs).toArray.extract 1 (Value.agg #[.int .i64 m.f0, .string m.f1, .slice A2 m.f2.length c2, .slice A3 m.f3.length c3] :: vs).toArray.size = vs.toArray := by simp
  rw [hsel, hbuf]
  have hn2 := (heap_setChan_cells (cap' := cap) (buf' := vs.toArray) (s' := s) (r' := r + 1) hc1 ⟨_, _, hn⟩).trans hn
  have hbut : But c w ((w.alloc (.cells #[.int .i64 0, .string ⟨#[]⟩, .slice none 0 0, .slice none 0 0] 30)).setChan c cap vs.toArray false s (r + 1) false) := (But.of_below hb0).trans (But.set _ _ _ _ _)
  have hc2 := heap_setChan (w.alloc (.cells #[.int .i64 0, .string ⟨#[]⟩, .slice none 0 0, .slice none 0 0] 30)) c cap vs.toArray false s (r + 1) false (blk_lt hc1)
  generalize (w.alloc (.cells #[.int .i64 0, .string ⟨#[]⟩, .slice none 0 0, .slice none 0 0] 30)).setChan c cap vs.toArray false s (r + 1) false = w1 at hn2 hbut hc2 ⊢
  clear hsel hbuf hb0 hc1 hn
  simp only [Act.put, List.setIfInBounds_toArray, List.set_cons_zero, List.set_cons_succ]
  go_wp2
  refine wpN_of_wp ?_
  go_wp2_with (first
    | ((with_reducible refine gate_store (t := 30) (p := 4) (v := .tmp 16) rfl ?_); refine store30 (seg := [.int .i64 m.f0, .string m.f1, .slice A2 m.f2.length c2, .slice A3 m.f3.length c3]) rfl rfl rfl rfl rfl rfl rfl (by simp [Value.oneCell']) (heap_alloc_new w1 _) rfl ?_; intro w2 ho2 hn3; have q0 := (blk_cell hn3 0).trans rfl; have q1 := (blk_cell hn3 1).trans rfl; have q2 := (blk_cell hn3 2).trans rfl; have q3 := (blk_cell hn3 3).trans rfl; simp only [List.getElem?_toArray, List.getElem?_cons_zero, List.getElem?_cons_succ] at q0 q1 q2 q3; have hb1 := below_alloc (Below.refl w1.heap.size w1) (.cells #[.int .i64 0, .string ⟨#[]⟩, .slice none 0 0, .slice none 0 0] 30); have HN := Aside0.mk ((ho2.block w.heap.size (Nat.ne_of_lt (blk_lt hn2))).trans ((hb1.block _ (blk_lt hn2)).trans hn2)))
    | ((with_reducible refine gate_store (t := 30) (p := 2) (v := .tmp 17) rfl ?_); refine store30 (seg := [.int .i64 m.f0, .string m.f1, .slice A2 m.f2.length c2, .slice A3 m.f3.length c3]) rfl rfl rfl rfl rfl rfl rfl (by simp [Value.oneCell']) HN.out rfl ?_; intro w3 ho3 hn4))
  have p0 := (blk_cell hn4 0).trans rfl
  have p1 := (blk_cell hn4 1).trans rfl
  have p2 := (blk_cell hn4 2).trans rfl
  have p3 := (blk_cell hn4 3).trans rfl
  simp only [List.getElem?_toArray, List.getElem?_cons_zero, List.getElem?_cons_succ] at p0 p1 p2 p3
  have hw1 : w.heap.size ≤ w1.heap.size := hbut.size
  have hbut3 : But c w w3 := ((hbut.trans (But.of_below hb1)).only ho2 hw1).only ho3 (Nat.le_refl _)
  have hc3 : w3.heap[c]? = some (.chan cap vs.toArray false s (r + 1) false) := (ho3.block c (by omega)).trans ((ho2.block c (by omega)).trans ((hb1.block c (blk_lt hc2)).trans hc2))
  refine bodyPost_ret (results_ct rfl _ _ w.heap.size 30 _ (0, 0) _ rfl hn4 Try.underlying30 rfl (by kernel_rfl)) rfl ?_
  exact ⟨_, rfl, ⟨_, _, rfl, R_but HR2.out hc hbut3, R_but HR3.out hc hbut3⟩, ⟨hBc, by rw [List.length_cons] at hlen; omega, hcap, vs, ⟨hcg, (hbut3.block g hlg (by omega)).trans hg, _, _, hc3⟩, HMS.out.imp (fun _ _ hh => hh.cells (fun k _ _ hk hcs => hbut3.block k hk (fun e => by
    obtain ⟨cs, q, hq⟩ := hcs
    rw [e, hc] at hq
    cases hq)))⟩, hbut3⟩
set_option maxHeartbeats 1000000 in
theorem take_none (w : World) (B : Nat) (ok : Nat → Prop) (g c cap : Nat) (hB : Box w B ok g c cap []) (hBw : B ≤ w.heap.size) :
    Calls Try.prog 11 #[.pointer (some ⟨g, 0, none⟩)] w fun e w' => e = .returned (.tuple #[z30v, .bool false]) ∧ Box w' B ok g c cap [] ∧ But c w w' := by
  have HB := Aside0.mk hB
  obtain ⟨hBc, hlen, hcap, vs, ⟨hcg, hg, s, r, hc⟩, hms⟩ := hB
  rcases vs with _ | ⟨v0, vs⟩
  case cons => exact hms.elim
  clear hms
  have hq := (blk_cell hg 0).trans rfl
  have hlg := blk_lt hg
  refine calls_of_wpN Try.func11 rfl ?_
  simp only [Try.ntmps11, List.size_toArray, List.length_cons, List.length_nil, Nat.reduceAdd, Nat.reduceSub, Array.replicate_succ, Array.replicate_zero, List.push_toArray, List.append_toArray, List.nil_append, List.cons_append]
  refine wpN_seq ?_
  go_wp2
  refine wpN_seq ?_
  go_wp2
  refine wpN_seq ?_
  go_wp2
  have hb0 : Below w.heap.size w (w.alloc (.cells #[.int .i64 0, .string ⟨#[]⟩, .slice none 0 0, .slice none 0 0] 30)) := below_alloc (Below.refl _ _) _
  have hc1 : (w.alloc (.cells #[.int .i64 0, .string ⟨#[]⟩, .slice none 0 0, .slice none 0 0] 30)).heap[c]? = some (.chan cap #[] false s r false) := by rw [hb0.block c (by omega)]; exact hc
  refine wpN_none (c := c) (z := z30v) rfl (by simp [go_sem, execOp, rcase, Act.eval, Act.put, z30v]) hc1 ?_
  have hsel : commResult #[rcase c z30v] .select (-1) undef false = .tuple #[.int .i64 (-1), .bool false, z30v] := by simp [commResult, rcase, goInt]
  rw [hsel]
  simp only [Act.put, List.setIfInBounds_toArray, List.set_cons_zero, List.set_cons_succ]
  go_wp2
  refine wpN_of_wp ?_
  go_wp2_with (first
    | ((with_reducible refine gate_store (t := 30) (p := 2) (v := .tmp 15) rfl ?_); refine store30 (seg := [.int .i64 0, .string ⟨#[]⟩, .slice none 0 0, .slice none 0 0]) rfl rfl rfl rfl rfl rfl rfl (by simp [Value.oneCell']) (heap_alloc_new w _) rfl ?_; intro w3 ho3 hn4))
  have p0 := (blk_cell hn4 0).trans rfl
  have p1 := (blk_cell hn4 1).trans rfl
  have p2 := (blk_cell hn4 2).trans rfl
  have p3 := (blk_cell hn4 3).trans rfl
  simp only [List.getElem?_toArray, List.getElem?_cons_zero, List.getElem?_cons_succ] at p0 p1 p2 p3
  have hbut3 : But c w w3 := (But.of_below hb0).only ho3 (Nat.le_refl _)
  refine bodyPost_ret (results_ct rfl _ _ w.heap.size 30 _ (0, 0) _ rfl hn4 Try.underlying30 rfl (by kernel_rfl)) rfl ?_
  exact ⟨rfl, HB.out.step ((ho3.block g (by omega)).trans (hb0.block g hlg)) ((ho3.block c (by omega)).trans (hb0.block c (by omega))) (fun k hk hBk hlt => (ho3.block k (by omega)).trans (hb0.block k hlt)), hbut3⟩
theorem len_box (w : World) (B : Nat) (ok : Nat → Prop) (g c cap : Nat) (ms : List S30) (hB : Box w B ok g c cap ms) :
    Calls Try.prog 18 #[.pointer (some ⟨g, 0, none⟩)] w fun e w' => e = .returned (.int .i64 (ms.length : Int)) ∧ Below w.heap.size w w' := by
  obtain ⟨hBc, hlen, hcap, vs, ⟨hcg, hg, s, r, hc⟩, hms⟩ := hB
  have hl : vs.length = ms.length := hms.length
  have hq := (blk_cell hg 0).trans rfl
  have hrl := run_len_chan (P := Try.prog) 51 3 Try.underlying51 hc
  clear hms hg
  go_enter Try.func18, Try.ntmps18
  go_wp2
  go_ret
  exact ⟨rfl, Below.refl _ _⟩
def mail_Box_Room.T3 : Bool × List (List Nat × List Nat) := (true, [([], []), ([0], [0]), ([1], [1]), ([2], [2]), ([3], [3]), ([], []), ([5], [5]), ([6], [6]), ([7], [7]), ([8, 4], [8]), ([4, 9], [4, 9]), ([10, 9, 0, 1, 2, 3, 4, 5, 6, 7, 8, 9, 10], [10])])
def mail_Box_Room.B3 : List Nat := [0, 1, 3, 7, 15, 0, 32, 96, 224, 511, 1023, 2047]
theorem mail_Box_Room.tab3 : rtab .any (opsOf Try.f19 3) = mail_Box_Room.T3 := by kernel_rfl
theorem mail_Box_Room.bits3 : waitsOk mail_Box_Room.T3.2 mail_Box_Room.B3 = true := by kernel_rfl
set_option maxHeartbeats 1000000 in
theorem room_box (w : World) (B : Nat) (ok : Nat → Prop) (g c cap : Nat) (ms : List S30) (hB : Box w B ok g c cap ms) :
    Calls Try.prog 19 #[.pointer (some ⟨g, 0, none⟩)] w fun e w' => e = .returned (.int .i64 ((cap - ms.length : Nat) : Int)) ∧ Below w.heap.size w w' := by
  obtain ⟨hBc, hlen, hcap, vs, ⟨hcg, hg, s, r, hc⟩, hms⟩ := hB
  have hl : vs.length = ms.length := hms.length
  clear hms
  go_enter Try.func19, Try.ntmps19
  go_wp2
  refine start_ (n := 12) (S := fun w' => w'.cell? ⟨g, 0, none⟩ = some (.chan (some c)) ∧ w'.heap[c]? = some (.chan cap vs.toArray false s r false)) (ds := []) #[false, false, false, false, false, false, false, false, false, false, false, false] (by kernel_rfl) rfl rfl ⟨(blk_cell hg 0).trans rfl, hc⟩ (fun hHeld => ?_)
  refine with_tabW mail_Box_Room.tab3 mail_Box_Room.bits3 (fun HT_ HW_ => ?_)
  have HB := Aside0.mk (below_drew1 (Below.refl w.heap.size w))
  generalize w.drew = w5 at HB hHeld ⊢
  refine pure_ (i := 0) (N := (some 5)) (v := ?_) (a' := ?_) #[true, false, false, false, false, false, false, false, false, false, false, false] rfl rfl (any_of HT_.out (by kernel_rfl)) (fun _ _ _ h => h) (Or.inl ⟨by rfl, ?_⟩) ?_ ?_
  rotate_left
  · intro w'
    go_simp
    with_reducible rfl
  rotate_left
  · simp only [Act.put, List.setIfInBounds_toArray, List.set_cons_zero, List.set_cons_succ, i64_w, i32_w]
    rfl
  refine pure_ (i := 1) (N := (some 6)) (v := ?_) (a' := ?_) #[true, true, false, false, false, false, false, false, false, false, false, false] rfl rfl (any_of HT_.out (by kernel_rfl)) (fun _ _ _ h => h) (Or.inl ⟨by rfl, ?_⟩) ?_ ?_
  rotate_left
  · intro w'
    go_simp
    with_reducible rfl
  rotate_left
  · simp only [Act.put, List.setIfInBounds_toArray, List.set_cons_zero, List.set_cons_succ, i64_w, i32_w]
    rfl
  refine pure_ (i := 2) (N := (some 7)) (v := ?_) (a' := ?_) #[true, true, true, false, false, false, false, false, false, false, false, false] rfl rfl (any_of HT_.out (by kernel_rfl)) (fun _ _ _ h => h) (Or.inl ⟨by rfl, ?_⟩) ?_ ?_
  rotate_left
  · intro w'
    go_simp
    with_reducible rfl
  rotate_left
  · simp only [Act.put, List.setIfInBounds_toArray, List.set_cons_zero, List.set_cons_succ, i64_w, i32_w]
    rfl
  refine take_ (i := 3) (N := (some 8)) (v := ?_) (a' := ?_) #[true, true, true, true, false, false, false, false, false, false, false, false] rfl rfl (take_ofW HT_.out HW_.out (by kernel_rfl)) (fun _ _ _ h => h) (Or.inl ⟨by rfl, ?_⟩) hHeld ?_ ?_
  rotate_left
  · rintro w' ⟨s0, s1⟩
    go_simp
    with_reducible rfl
  rotate_left
  · simp only [Act.put, List.setIfInBounds_toArray, List.set_cons_zero, List.set_cons_succ, i64_w, i32_w]
    rfl
  refine take_ (i := 4) (N := (some 9)) (v := ?_) (a' := ?_) #[true, true, true, true, true, false, false, false, false, false, false, false] rfl rfl (take_ofW HT_.out HW_.out (by kernel_rfl)) (fun _ _ _ h => h) (Or.inl ⟨by rfl, ?_⟩) hHeld ?_ ?_
  rotate_left
  · rintro w' ⟨s0, s1⟩
    have hrl := run_len_chan (P := Try.prog) 51 3 Try.underlying51 s1
    have hrc := run_cap_chan (P := Try.prog) 51 3 Try.underlying51 s1
    go_simp
    with_reducible rfl
  rotate_left
  · simp only [Act.put, List.setIfInBounds_toArray, List.set_cons_zero, List.set_cons_succ, i64_w, i32_w]
    rfl
  refine pure_ (i := 5) (N := (some 10)) (v := ?_) (a' := ?_) #[true, true, true, true, true, true, false, false, false, false, false, false] rfl rfl (any_of HT_.out (by kernel_rfl)) (fun _ _ _ h => h) (Or.inl ⟨by rfl, ?_⟩) ?_ ?_
  rotate_left
  · intro w'
    go_simp
    with_reducible rfl
  rotate_left
  · simp only [Act.put, List.setIfInBounds_toArray, List.set_cons_zero, List.set_cons_succ, i64_w, i32_w]
    rfl
  refine pure_ (i := 6) (N := (some 11)) (v := ?_) (a' := ?_) #[true, true, true, true, true, true, true, false, false, false, false, false] rfl rfl (any_of HT_.out (by kernel_rfl)) (fun _ _ _ h => h) (Or.inl ⟨by rfl, ?_⟩) ?_ ?_
  rotate_left
  · intro w'
    go_simp
    with_reducible rfl
  rotate_left
  · simp only [Act.put, List.setIfInBounds_toArray, List.set_cons_zero, List.set_cons_succ, i64_w, i32_w]
    rfl
  refine pure_ (i := 7) (N := (some 12)) (v := ?_) (a' := ?_) #[true, true, true, true, true, true, true, true, false, false, false, false] rfl rfl (any_of HT_.out (by kernel_rfl)) (fun _ _ _ h => h) (Or.inl ⟨by rfl, ?_⟩) ?_ ?_
  rotate_left
  · intro w'
    go_simp
    with_reducible rfl
  rotate_left
  · simp only [Act.put, List.setIfInBounds_toArray, List.set_cons_zero, List.set_cons_succ, i64_w, i32_w]
    rfl
  refine take_ (i := 8) (N := (some 13)) (v := ?_) (a' := ?_) #[true, true, true, true, true, true, true, true, true, false, false, false] rfl rfl (take_ofW HT_.out HW_.out (by kernel_rfl)) (fun _ _ _ h => h) (Or.inl ⟨by rfl, ?_⟩) hHeld ?_ ?_
  rotate_left
  · rintro w' ⟨s0, s1⟩
    go_simp
    with_reducible rfl
  rotate_left
  · simp only [Act.put, List.setIfInBounds_toArray, List.set_cons_zero, List.set_cons_succ, i64_w, i32_w]
    rfl
  refine take_ (i := 9) (N := (some 14)) (v := ?_) (a' := ?_) #[true, true, true, true, true, true, true, true, true, true, false, false] rfl rfl (take_ofW HT_.out HW_.out (by kernel_rfl)) (fun _ _ _ h => h) (Or.inl ⟨by rfl, ?_⟩) hHeld ?_ ?_
  rotate_left
  · rintro w' ⟨s0, s1⟩
    have hrl := run_len_chan (P := Try.prog) 51 3 Try.underlying51 s1
    have hrc := run_cap_chan (P := Try.prog) 51 3 Try.underlying51 s1
    go_simp
    with_reducible rfl
  rotate_left
  · simp only [Act.put, List.setIfInBounds_toArray, List.set_cons_zero, List.set_cons_succ, i64_w, i32_w]
    rfl
  refine pure_ (i := 10) (N := (some 15)) (v := ?_) (a' := ?_) #[true, true, true, true, true, true, true, true, true, true, true, false] rfl rfl (any_of HT_.out (by kernel_rfl)) (fun _ _ _ h => h) (Or.inl ⟨by rfl, ?_⟩) ?_ ?_
  rotate_left
  · intro w'
    go_simp
    with_reducible rfl
  rotate_left
  · simp only [Act.put, List.setIfInBounds_toArray, List.set_cons_zero, List.set_cons_succ, i64_w, i32_w]
    rfl
  refine pure_ (i := 11) (N := (some 2)) (v := ?_) (a' := ?_) #[true, true, true, true, true, true, true, true, true, true, true, true] rfl rfl (any_of HT_.out (by kernel_rfl)) (fun _ _ _ h => h) (Or.inl ⟨by rfl, ?_⟩) ?_ ?_
  rotate_left
  · intro w'
    go_simp
    with_reducible rfl
  rotate_left
  · simp only [Act.put, List.setIfInBounds_toArray, List.set_cons_zero, List.set_cons_succ, i64_w, i32_w]
    rfl
  refine done_ (done_of HT_.out (by kernel_rfl)) ?_
  go_wp2
  go_ret
  refine ⟨?_, HB.out⟩
  have e : wrap64 ((cap : Int) - (ms.length : Int)) = ((cap - ms.length : Nat) : Int) := by unfold wrap64; omega
  rw [← e]; rfl
def capOf (most : Int) : Nat := (max 0 (min most 4096)).toNat
theorem new_make (w : World) (n : Nat) (hn : n ≤ 4096) : (Instr.makeChan 51 (.int .i64 (n : Int))).run Try.prog w = .ok (.chan (some w.heap.size)) (w.alloc (.chan n #[] false 0 0 false)) := by
  have h := info30
  obtain ⟨i, hi, he⟩ := Option.map_eq_some_iff.1 h
  have hb : i.bytes = 72 := by injection he with _ he; injection he
  exact run_makeChan Try.underlying51 hi .i64 n (by omega) (by rw [hb]; omega)
set_option maxHeartbeats 1000000 in
theorem new_at (w : World) (most : Int) (n : Nat) (hn : n ≤ 4096) (hm : max 0 (min most 4096) = (n : Int)) :
    Calls Try.prog 8 #[.int .i64 most] w fun e w' => ∃ g c, e = .returned (.pointer (some ⟨g, 0, none⟩)) ∧ Box w' w.heap.size (fun k => w.heap.size ≤ k) g c n [] ∧ Below w.heap.size w w' := by
  have hmk := new_make w n hn
  have done : ∃ g c, (Ending.returned (.pointer (some ⟨w.heap.size + 1, 0, none⟩))) = .returned (.pointer (some ⟨g, 0, none⟩)) ∧ Box ((w.alloc (.chan n #[] false 0 0 false)).alloc (.cells #[.chan (some w.heap.size)] 53 (0, 0))) w.heap.size (fun k => w.heap.size ≤ k) g c n [] ∧ Below w.heap.size w ((w.alloc (.chan n #[] false 0 0 false)).alloc (.cells #[.chan (some w.heap.size)] 53 (0, 0))) := by
    have s1 : (w.alloc (.chan n #[] false 0 0 false)).heap.size = w.heap.size + 1 := by simp
    have h1 := heap_alloc_new w (.chan n #[] false 0 0 false)
    have h2 := heap_alloc_new (w.alloc (.chan n #[] false 0 0 false)) (.cells #[.chan (some w.heap.size)] 53 (0, 0))
    have h3 := blk_below h1 (below_alloc (Below.refl _ _) (.cells #[.chan (some w.heap.size)] 53 (0, 0)))
    rw [s1] at h2
    exact ⟨_, w.heap.size, rfl, ⟨Nat.le_refl _, Nat.zero_le _, hn, [], ⟨by omega, h2, 0, 0, h3⟩, trivial⟩, below_alloc (below_alloc (Below.refl _ _) _) _⟩
  have c1 : 4096 < most → n = 4096 := by omega
  have c2 : most ≤ 4096 → 0 < most → most = n := by omega
  have c3 : most ≤ 0 → n = 0 := by omega
  rcases Int.lt_or_le 4096 most with h | h
  · obtain rfl := c1 h
    replace hmk : (Instr.makeChan 51 (.int .i64 4096)).run Try.prog w = .ok (.chan (some w.heap.size)) (w.alloc (.chan 4096 #[] false 0 0 false)) := hmk
    clear c1 c2 c3 hm hn
    go_enter Try.func8, Try.ntmps8
    go_wp2
    go_ret
    exact done
  · rcases Int.lt_or_le 0 most with h0 | h0
    · have e := c2 h h0
      subst e
      clear c1 c2 c3 hm
      go_enter Try.func8, Try.ntmps8
      go_wp2
      go_ret
      exact done
    · obtain rfl := c3 h0
      replace hmk : (Instr.makeChan 51 (.int .i64 0)).run Try.prog w = .ok (.chan (some w.heap.size)) (w.alloc (.chan 0 #[] false 0 0 false)) := hmk
      clear c1 c2 c3 hm hn
      go_enter Try.func8, Try.ntmps8
      go_wp2
      go_ret
      exact done
theorem new_box (w : World) (most : Int) :
    Calls Try.prog 8 #[.int .i64 most] w fun e w' => ∃ g c, e = .returned (.pointer (some ⟨g, 0, none⟩)) ∧ Box w' w.heap.size (fun k => w.heap.size ≤ k) g c (capOf most) [] ∧ Below w.heap.size w w' :=
  new_at w most (capOf most) (by unfold capOf; omega) (by unfold capOf; omega)
end Go.Proofs.Ythbcekjiljkchaa.XM
namespace Go.Proofs.Ythbcekjiljkchaa.XM
open Go.RowKit Go.Proofs.YthbcekjiljkchaaW.PrintWords Go.Proofs.YthbcekjiljkchaaW.PrintLast Go.Proofs.YthbcekjiljkchaaW.PrintMore
attribute [local go_sem] max2_int min2_int max_two min_two max_three min_three max_four min_four   -- for this text's walks alone
set_option linter.unusedVariables false
set_option linter.unusedSimpArgs false
mutual
def switchyardref06_Same.j0 : Nat → Bool → Int → Int → ByteArray → List Int → Int → Int → ByteArray → List Int → Option (Bool)
  | 0, _, _, _, _, _, _, _, _, _ => none
  | k + 1, x5, x126000, x126001, x126002, x126003, x127000, x127001, x127002, x127003 => switchyardref06_Same.l0 k x5 0 x126000 x126001 x126002 x126003 x127000 x127001 x127002 x127003
def switchyardref06_Same.l0 : Nat → Bool → Int → Int → Int → ByteArray → List Int → Int → Int → ByteArray → List Int → Option (Bool)
  | 0, _, _, _, _, _, _, _, _, _, _ => none
  | k + 1, x5, x6, x126000, x126001, x126002, x126003, x127000, x127001, x127002, x127003 => if x5 = true then (if x6 < (x126003.length : Int) then (if 0 ≤ x6 then (if x6 < (x127003.length : Int) then (switchyardref06_Same.l0 k ((rd x126003 x6) == (rd x127003 x6)) (wrap64 (x6 + 1)) x126000 x126001 x126002 x126003 x127000 x127001 x127002 x127003) else (none)) else (none)) else (some x5)) else (some x5)
end
def switchyardref06_Same.f (k : Nat) (a0_0 : Int) (a0_1 : Int) (a0_2 : ByteArray) (l0_3 : List Int) (a1_0 : Int) (a1_1 : Int) (a1_2 : ByteArray) (l1_3 : List Int) : Option (Bool) := if a0_0 = a1_0 then (if a0_1 = a1_1 then (if a0_2.toList = a1_2.toList then (switchyardref06_Same.j0 k ((l0_3.length : Int) == (l1_3.length : Int)) a0_0 a0_1 a0_2 l0_3 a1_0 a1_1 a1_2 l1_3) else (switchyardref06_Same.j0 k false a0_0 a0_1 a0_2 l0_3 a1_0 a1_1 a1_2 l1_3)) else (switchyardref06_Same.j0 k false a0_0 a0_1 a0_2 l0_3 a1_0 a1_1 a1_2 l1_3)) else (switchyardref06_Same.j0 k false a0_0 a0_1 a0_2 l0_3 a1_0 a1_1 a1_2 l1_3)
set_option maxHeartbeats 600000 in
set_option maxRecDepth 100000 in
theorem switchyardref06_Same.calls (k : Nat) (a0_0 : Int) (a0_1 : Int) (a0_2 : ByteArray) (A0_3 : Option Addr) (c0_3 : Nat) (l0_3 : List Int) (a1_0 : Int) (a1_1 : Int) (a1_2 : ByteArray) (A1_3 : Option Addr) (c1_3 : Nat) (l1_3 : List Int) (r : Bool) (w : World) (hr0_3 : Kd.C (Kd.int .i64) w A0_3 l0_3.length l0_3) (hc0_3 : l0_3.length ≤ c0_3) (hr1_3 : Kd.C (Kd.int .i64) w A1_3 l1_3.length l1_3) (hc1_3 : l1_3.length ≤ c1_3) (h : switchyardref06_Same.f k a0_0 a0_1 a0_2 l0_3 a1_0 a1_1 a1_2 l1_3 = some r) :
    Calls Try.prog 23 #[.agg #[.int .i64 a0_0, .int .i64 a0_1, .string a0_2, .slice A0_3 l0_3.length c0_3], .agg #[.int .i64 a1_0, .int .i64 a1_1, .string a1_2, .slice A1_3 l1_3.length c1_3]] w fun e w' => e = .returned (.bool r) ∧ Below w.heap.size w w' := by
  have hu49 := Try.underlying49
  have HR0_3 := Aside0.mk hr0_3
  have HC0_3 := Aside0.mk hc0_3
  clear hr0_3 hc0_3
  have HR1_3 := Aside0.mk hr1_3
  have HC1_3 := Aside0.mk hc1_3
  clear hr1_3 hc1_3
  have HB := Aside0.mk (Below.refl w.heap.size w)
  have H : (if a0_0 = a1_0 then (if a0_1 = a1_1 then (if a0_2.toList = a1_2.toList then (switchyardref06_Same.j0 k ((l0_3.length : Int) == (l1_3.length : Int)) a0_0 a0_1 a0_2 l0_3 a1_0 a1_1 a1_2 l1_3) else (switchyardref06_Same.j0 k false a0_0 a0_1 a0_2 l0_3 a1_0 a1_1 a1_2 l1_3)) else (switchyardref06_Same.j0 k false a0_0 a0_1 a0_2 l0_3 a1_0 a1_1 a1_2 l1_3)) else (switchyardref06_Same.j0 k false a0_0 a0_1 a0_2 l0_3 a1_0 a1_1 a1_2 l1_3)) = some r := h
  clear h
  have HC3 := Aside0.mk H
  clear H
  go_enter Try.func23, Try.ntmps23
  go_upto_region 1 with (first | ((with_reducible refine gate_dst (N := 2) rfl ?_); (try (refine gate_guard (by rfl) ?_; dsimp only)); refine box_event ?hg (N := 2) ?hd (cs := #[.int .i64 a0_0, .int .i64 a0_1, .string a0_2, .slice A0_3 l0_3.length c0_3]) (t := 49) ?hr ?_; (case hd => rfl); (case hg => rfl); (case hr => first | (go_simp; done) | (go_simp; rfl)); intro gb125 hg w4 hbox hb; have n0_ := Aside0.mk (below_step (by repeat (first | (with_reducible first | exact HB.out | apply below_alloc | apply pw_below_drewN | apply below_drew1) | exact HB.out)) hb); have n1_ := Aside0.mk (hbox); have n2_ := Aside0.mk ((by rw [hg]; exact (below_size (by repeat (first | (with_reducible first | exact HB.out | apply below_alloc | apply pw_below_drewN | apply below_drew1) | exact HB.out))) : w.heap.size ≤ gb125)); have n3_ := Aside0.mk ((by rw [hg]; exact (below_size (by repeat (first | (with_reducible first | exact HB.out | apply below_alloc | apply pw_below_drewN | apply below_drew1) | exact HB.out))) : w.heap.size ≤ gb125)); clear HB; have HB := n0_; have BK125 := n1_; have GW125 := n2_; have GE125 := n3_; clear n0_ n1_ n2_ n3_; clear hb hbox hg) | ((with_reducible refine gate_dst (N := 3) rfl ?_); (try (refine gate_guard (by rfl) ?_; dsimp only)); refine box_event ?hg (N := 3) ?hd (cs := #[.int .i64 a1_0, .int .i64 a1_1, .string a1_2, .slice A1_3 l1_3.length c1_3]) (t := 49) ?hr ?_; (case hd => rfl); (case hg => rfl); (case hr => first | (go_simp; done) | (go_simp; rfl)); intro gb126 hg w5 hbox hb; have n0_ := Aside0.mk (blk_below (g := gb125) (o := .cells #[.int .i64 a0_0, .int .i64 a0_1, .string a0_2, .slice A0_3 l0_3.length c0_3] 49 (0, 0)) (by (with_reducible repeat (first | refine blk_drewN ?_ _ | refine blk_drew ?_ | refine blk_alloc ?_ _)); exact BK125.out) hb); have n1_ := Aside0.mk (below_step (by repeat (first | (with_reducible first | exact HB.out | apply below_alloc | apply pw_below_drewN | apply below_drew1 | refine below_set ?_ GE125.out) | exact HB.out)) hb); have n2_ := Aside0.mk (hbox); have n3_ := Aside0.mk ((by rw [hg]; exact (below_size (by repeat (first | (with_reducible first | exact HB.out | apply below_alloc | apply pw_below_drewN | apply below_drew1 | refine below_set ?_ GE125.out) | exact HB.out))) : w.heap.size ≤ gb126)); have n4_ := Aside0.mk ((by rw [hg]; exact (below_size (by repeat (first | (with_reducible first | exact HB.out | apply below_alloc | apply pw_below_drewN | apply below_drew1 | refine below_set ?_ GE125.out) | exact HB.out))) : w.heap.size ≤ gb126)); have n5_ := Aside0.mk ((by rw [hg]; exact Nat.ne_of_lt (blk_lt (g := gb125) (o := .cells #[.int .i64 a0_0, .int .i64 a0_1, .string a0_2, .slice A0_3 l0_3.length c0_3] 49 (0, 0)) (by (with_reducible repeat (first | refine blk_drewN ?_ _ | refine blk_drew ?_ | refine blk_alloc ?_ _)); exact BK125.out)) : gb125 ≠ gb126)); have n6_ := Aside0.mk ((by rw [hg]; exact Nat.ne_of_gt (blk_lt (g := gb125) (o := .cells #[.int .i64 a0_0, .int .i64 a0_1, .string a0_2, .slice A0_3 l0_3.length c0_3] 49 (0, 0)) (by (with_reducible repeat (first | refine blk_drewN ?_ _ | refine blk_drew ?_ | refine blk_alloc ?_ _)); exact BK125.out)) : gb126 ≠ gb125)); clear BK125; clear HB; have BK125 := n0_; have HB := n1_; have BK126 := n2_; have GW126 := n3_; have GE126 := n4_; have NB125_126 := n5_; have NB126_125 := n6_; clear n0_ n1_ n2_ n3_ n4_ n5_ n6_; clear hb hbox hg))
  repeat (go_quiet (first | ((with_reducible refine gate_dst (N := 2) rfl ?_); (try (refine gate_guard (by rfl) ?_; dsimp only)); refine box_event ?hg (N := 2) ?hd (cs := #[.int .i64 a0_0, .int .i64 a0_1, .string a0_2, .slice A0_3 l0_3.length c0_3]) (t := 49) ?hr ?_; (case hd => rfl); (case hg => rfl); (case hr => first | (go_simp; done) | (go_simp; rfl)); intro gb125 hg w4 hbox hb; have n0_ := Aside0.mk (below_step (by repeat (first | (with_reducible first | exact HB.out | apply below_alloc | apply pw_below_drewN | apply below_drew1) | exact HB.out)) hb); have n1_ := Aside0.mk (hbox); have n2_ := Aside0.mk ((by rw [hg]; exact (below_size (by repeat (first | (with_reducible first | exact HB.out | apply below_alloc | apply pw_below_drewN | apply below_drew1) | exact HB.out))) : w.heap.size ≤ gb125)); have n3_ := Aside0.mk ((by rw [hg]; exact (below_size (by repeat (first | (with_reducible first | exact HB.out | apply below_alloc | apply pw_below_drewN | apply below_drew1) | exact HB.out))) : w.heap.size ≤ gb125)); clear HB; have HB := n0_; have BK125 := n1_; have GW125 := n2_; have GE125 := n3_; clear n0_ n1_ n2_ n3_; clear hb hbox hg) | ((with_reducible refine gate_dst (N := 3) rfl ?_); (try (refine gate_guard (by rfl) ?_; dsimp only)); refine box_event ?hg (N := 3) ?hd (cs := #[.int .i64 a1_0, .int .i64 a1_1, .string a1_2, .slice A1_3 l1_3.length c1_3]) (t := 49) ?hr ?_; (case hd => rfl); (case hg => rfl); (case hr => first | (go_simp; done) | (go_simp; rfl)); intro gb126 hg w5 hbox hb; have n0_ := Aside0.mk (blk_below (g := gb125) (o := .cells #[.int .i64 a0_0, .int .i64 a0_1, .string a0_2, .slice A0_3 l0_3.length c0_3] 49 (0, 0)) (by (with_reducible repeat (first | refine blk_drewN ?_ _ | refine blk_drew ?_ | refine blk_alloc ?_ _)); exact BK125.out) hb); have n1_ := Aside0.mk (below_step (by repeat (first | (with_reducible first | exact HB.out | apply below_alloc | apply pw_below_drewN | apply below_drew1 | refine below_set ?_ GE125.out) | exact HB.out)) hb); have n2_ := Aside0.mk (hbox); have n3_ := Aside0.mk ((by rw [hg]; exact (below_size (by repeat (first | (with_reducible first | exact HB.out | apply below_alloc | apply pw_below_drewN | apply below_drew1 | refine below_set ?_ GE125.out) | exact HB.out))) : w.heap.size ≤ gb126)); have n4_ := Aside0.mk ((by rw [hg]; exact (below_size (by repeat (first | (with_reducible first | exact HB.out | apply below_alloc | apply pw_below_drewN | apply below_drew1 | refine below_set ?_ GE125.out) | exact HB.out))) : w.heap.size ≤ gb126)); have n5_ := Aside0.mk ((by rw [hg]; exact Nat.ne_of_lt (blk_lt (g := gb125) (o := .cells #[.int .i64 a0_0, .int .i64 a0_1, .string a0_2, .slice A0_3 l0_3.length c0_3] 49 (0, 0)) (by (with_reducible repeat (first | refine blk_drewN ?_ _ | refine blk_drew ?_ | refine blk_alloc ?_ _)); exact BK125.out)) : gb125 ≠ gb126)); have n6_ := Aside0.mk ((by rw [hg]; exact Nat.ne_of_gt (blk_lt (g := gb125) (o := .cells #[.int .i64 a0_0, .int .i64 a0_1, .string a0_2, .slice A0_3 l0_3.length c0_3] 49 (0, 0)) (by (with_reducible repeat (first | refine blk_drewN ?_ _ | refine blk_drew ?_ | refine blk_alloc ?_ _)); exact BK125.out)) : gb126 ≠ gb125)); clear BK125; clear HB; have BK125 := n0_; have HB := n1_; have BK126 := n2_; have GW126 := n3_; have GE126 := n4_; have NB125_126 := n5_; have NB126_125 := n6_; clear n0_ n1_ n2_ n3_ n4_ n5_ n6_; clear hb hbox hg)); go_upto_region 1 with (first | ((with_reducible refine gate_dst (N := 2) rfl ?_); (try (refine gate_guard (by rfl) ?_; dsimp only)); refine box_event ?hg (N := 2) ?hd (cs := #[.int .i64 a0_0, .int .i64 a0_1, .string a0_2, .slice A0_3 l0_3.length c0_3]) (t := 49) ?hr ?_; (case hd => rfl); (case hg => rfl); (case hr => first | (go_simp; done) | (go_simp; rfl)); intro gb125 hg w4 hbox hb; have n0_ := Aside0.mk (below_step (by repeat (first | (with_reducible first | exact HB.out | apply below_alloc | apply pw_below_drewN | apply below_drew1) | exact HB.out)) hb); have n1_ := Aside0.mk (hbox); have n2_ := Aside0.mk ((by rw [hg]; exact (below_size (by repeat (first | (with_reducible first | exact HB.out | apply below_alloc | apply pw_below_drewN | apply below_drew1) | exact HB.out))) : w.heap.size ≤ gb125)); have n3_ := Aside0.mk ((by rw [hg]; exact (below_size (by repeat (first | (with_reducible first | exact HB.out | apply below_alloc | apply pw_below_drewN | apply below_drew1) | exact HB.out))) : w.heap.size ≤ gb125)); clear HB; have HB := n0_; have BK125 := n1_; have GW125 := n2_; have GE125 := n3_; clear n0_ n1_ n2_ n3_; clear hb hbox hg) | ((with_reducible refine gate_dst (N := 3) rfl ?_); (try (refine gate_guard (by rfl) ?_; dsimp only)); refine box_event ?hg (N := 3) ?hd (cs := #[.int .i64 a1_0, .int .i64 a1_1, .string a1_2, .slice A1_3 l1_3.length c1_3]) (t := 49) ?hr ?_; (case hd => rfl); (case hg => rfl); (case hr => first | (go_simp; done) | (go_simp; rfl)); intro gb126 hg w5 hbox hb; have n0_ := Aside0.mk (blk_below (g := gb125) (o := .cells #[.int .i64 a0_0, .int .i64 a0_1, .string a0_2, .slice A0_3 l0_3.length c0_3] 49 (0, 0)) (by (with_reducible repeat (first | refine blk_drewN ?_ _ | refine blk_drew ?_ | refine blk_alloc ?_ _)); exact BK125.out) hb); have n1_ := Aside0.mk (below_step (by repeat (first | (with_reducible first | exact HB.out | apply below_alloc | apply pw_below_drewN | apply below_drew1 | refine below_set ?_ GE125.out) | exact HB.out)) hb); have n2_ := Aside0.mk (hbox); have n3_ := Aside0.mk ((by rw [hg]; exact (below_size (by repeat (first | (with_reducible first | exact HB.out | apply below_alloc | apply pw_below_drewN | apply below_drew1 | refine below_set ?_ GE125.out) | exact HB.out))) : w.heap.size ≤ gb126)); have n4_ := Aside0.mk ((by rw [hg]; exact (below_size (by repeat (first | (with_reducible first | exact HB.out | apply below_alloc | apply pw_below_drewN | apply below_drew1 | refine below_set ?_ GE125.out) | exact HB.out))) : w.heap.size ≤ gb126)); have n5_ := Aside0.mk ((by rw [hg]; exact Nat.ne_of_lt (blk_lt (g := gb125) (o := .cells #[.int .i64 a0_0, .int .i64 a0_1, .string a0_2, .slice A0_3 l0_3.length c0_3] 49 (0, 0)) (by (with_reducible repeat (first | refine blk_drewN ?_ _ | refine blk_drew ?_ | refine blk_alloc ?_ _)); exact BK125.out)) : gb125 ≠ gb126)); have n6_ := Aside0.mk ((by rw [hg]; exact Nat.ne_of_gt (blk_lt (g := gb125) (o := .cells #[.int .i64 a0_0, .int .i64 a0_1, .string a0_2, .slice A0_3 l0_3.length c0_3] 49 (0, 0)) (by (with_reducible repeat (first | refine blk_drewN ?_ _ | refine blk_drew ?_ | refine blk_alloc ?_ _)); exact BK125.out)) : gb126 ≠ gb125)); clear BK125; clear HB; have BK125 := n0_; have HB := n1_; have BK126 := n2_; have GW126 := n3_; have GE126 := n4_; have NB125_126 := n5_; have NB126_125 := n6_; clear n0_ n1_ n2_ n3_ n4_ n5_ n6_; clear hb hbox hg)))
  (try simp only [Act.put, List.setIfInBounds_toArray, List.set_cons_zero, List.set_cons_succ])
  go_cut [5] (fun v5 wc => ∃ (kq : Nat) (x5_2 : Bool), v5 = .bool x5_2 ∧ Aside0 (switchyardref06_Same.j0 kq x5_2 a0_0 a0_1 a0_2 l0_3 a1_0 a1_1 a1_2 l1_3 = some r) ∧ Aside0 (kq ≤ k) ∧ Aside0 (wc.heap[gb125]? = some (.cells #[.int .i64 a0_0, .int .i64 a0_1, .string a0_2, (.slice A0_3 l0_3.length c0_3)] 49 (0, 0))) ∧ Aside0 (wc.heap[gb126]? = some (.cells #[.int .i64 a1_0, .int .i64 a1_1, .string a1_2, (.slice A1_3 l1_3.length c1_3)] 49 (0, 0))) ∧ Aside0 (Below w.heap.size w wc))
  case first =>
    have H := HC3.out
    clear HC3
    by_cases c6 : a0_0 = a1_0
    · rw [if_pos c6] at H
      have c6b0 : (a0_0 == a1_0) = true := beq_iff_eq.mpr c6
      have c6b1 : (a0_0 != a1_0) = false := bne_eq_false_iff_eq.mpr c6
      clear c6
      (first | rw [c6b0] | (simp only [i64_w, i32_w]; rw [c6b0]) | skip)
      by_cases c7 : a0_1 = a1_1
      · rw [if_pos c7] at H
        have c7b0 : (a0_1 == a1_1) = true := beq_iff_eq.mpr c7
        have c7b1 : (a0_1 != a1_1) = false := bne_eq_false_iff_eq.mpr c7
        clear c7
        by_cases c8 : a0_2.toList = a1_2.toList
        · rw [if_pos c8] at H
          have c8b0 : (a0_2.toList == a1_2.toList) = true := beq_iff_eq.mpr c8
          have c8b1 : (a0_2.toList != a1_2.toList) = false := bne_eq_false_iff_eq.mpr c8
          clear c8
          have H' := Aside0.mk H
          clear H
          have hnb9 := NB125_126.out
          have hnc9 := NB126_125.out
          have hcz10_0 : w5.cell? ⟨gb125, 0, none⟩ = some (.int .i64 a0_0) := (blk_cell BK125.out 0).trans rfl
          have hcz10_1 : w5.cell? ⟨gb125, 1, none⟩ = some (.int .i64 a0_1) := (blk_cell BK125.out 1).trans rfl
          have hcz10_2 : w5.cell? ⟨gb125, 2, none⟩ = some (.string a0_2) := (blk_cell BK125.out 2).trans rfl
          have hcz10_3 : w5.cell? ⟨gb125, 3, none⟩ = some (.slice A0_3 l0_3.length c0_3) := (blk_cell BK125.out 3).trans rfl
          have hfz10_0 := blk_frozen BK125.out 0
          have hfz10_1 := blk_frozen BK125.out 1
          have hfz10_2 := blk_frozen BK125.out 2
          have hfz10_3 := blk_frozen BK125.out 3
          have hcz11_0 : w5.cell? ⟨gb126, 0, none⟩ = some (.int .i64 a1_0) := (blk_cell BK126.out 0).trans rfl
          have hcz11_1 : w5.cell? ⟨gb126, 1, none⟩ = some (.int .i64 a1_1) := (blk_cell BK126.out 1).trans rfl
          have hcz11_2 : w5.cell? ⟨gb126, 2, none⟩ = some (.string a1_2) := (blk_cell BK126.out 2).trans rfl
          have hcz11_3 : w5.cell? ⟨gb126, 3, none⟩ = some (.slice A1_3 l1_3.length c1_3) := (blk_cell BK126.out 3).trans rfl
          have hfz11_0 := blk_frozen BK126.out 0
          have hfz11_1 := blk_frozen BK126.out 1
          have hfz11_2 := blk_frozen BK126.out 2
          have hfz11_3 := blk_frozen BK126.out 3
          go_wp2
          repeat (go_quiet (fail); try go_wp2)
          go_meet
          case rel => exact ⟨_, (((l0_3.length : Int) == (l1_3.length : Int))), (by first | rfl | (simp; done) | (simp [*]; done)), H', ⟨by first | omega | exact Nat.le_refl _⟩, ⟨by (with_reducible repeat (first | refine blk_drewN ?_ _ | refine blk_drew ?_ | refine blk_alloc ?_ _)); exact BK125.out⟩, ⟨by (with_reducible repeat (first | refine blk_drewN ?_ _ | refine blk_drew ?_ | refine blk_alloc ?_ _)); exact BK126.out⟩, ⟨by repeat (first | (with_reducible first | exact HB.out | apply below_alloc | apply pw_below_drewN | apply below_drew1 | refine below_set ?_ GE125.out | refine below_set ?_ GE126.out) | exact HB.out)⟩⟩
        · rw [if_neg c8] at H
          have c8b0 : (a0_2.toList == a1_2.toList) = false := beq_eq_false_iff_ne.mpr c8
          have c8b1 : (a0_2.toList != a1_2.toList) = true := bne_iff_ne.mpr c8
          have H' := Aside0.mk H
          clear H
          have hnb12 := NB125_126.out
          have hnc12 := NB126_125.out
          have hcz13_0 : w5.cell? ⟨gb125, 0, none⟩ = some (.int .i64 a0_0) := (blk_cell BK125.out 0).trans rfl
          have hcz13_1 : w5.cell? ⟨gb125, 1, none⟩ = some (.int .i64 a0_1) := (blk_cell BK125.out 1).trans rfl
          have hcz13_2 : w5.cell? ⟨gb125, 2, none⟩ = some (.string a0_2) := (blk_cell BK125.out 2).trans rfl
          have hcz13_3 : w5.cell? ⟨gb125, 3, none⟩ = some (.slice A0_3 l0_3.length c0_3) := (blk_cell BK125.out 3).trans rfl
          have hfz13_0 := blk_frozen BK125.out 0
          have hfz13_1 := blk_frozen BK125.out 1
          have hfz13_2 := blk_frozen BK125.out 2
          have hfz13_3 := blk_frozen BK125.out 3
          have hcz14_0 : w5.cell? ⟨gb126, 0, none⟩ = some (.int .i64 a1_0) := (blk_cell BK126.out 0).trans rfl
          have hcz14_1 : w5.cell? ⟨gb126, 1, none⟩ = some (.int .i64 a1_1) := (blk_cell BK126.out 1).trans rfl
          have hcz14_2 : w5.cell? ⟨gb126, 2, none⟩ = some (.string a1_2) := (blk_cell BK126.out 2).trans rfl
          have hcz14_3 : w5.cell? ⟨gb126, 3, none⟩ = some (.slice A1_3 l1_3.length c1_3) := (blk_cell BK126.out 3).trans rfl
          have hfz14_0 := blk_frozen BK126.out 0
          have hfz14_1 := blk_frozen BK126.out 1
          have hfz14_2 := blk_frozen BK126.out 2
          have hfz14_3 := blk_frozen BK126.out 3
          go_wp2
          repeat (go_quiet (fail); try go_wp2)
          go_meet
          case rel => exact ⟨_, (false), (by first | rfl | (simp; done) | (simp [*]; done)), H', ⟨by first | omega | exact Nat.le_refl _⟩, ⟨by (with_reducible repeat (first | refine blk_drewN ?_ _ | refine blk_drew ?_ | refine blk_alloc ?_ _)); exact BK125.out⟩, ⟨by (with_reducible repeat (first | refine blk_drewN ?_ _ | refine blk_drew ?_ | refine blk_alloc ?_ _)); exact BK126.out⟩, ⟨by repeat (first | (with_reducible first | exact HB.out | apply below_alloc | apply pw_below_drewN | apply below_drew1 | refine below_set ?_ GE125.out | refine below_set ?_ GE126.out) | exact HB.out)⟩⟩
      · rw [if_neg c7] at H
        have c7b0 : (a0_1 == a1_1) = false := beq_eq_false_iff_ne.mpr c7
        have c7b1 : (a0_1 != a1_1) = true := bne_iff_ne.mpr c7
        have H' := Aside0.mk H
        clear H
        have hnb15 := NB125_126.out
        have hnc15 := NB126_125.out
        have hcz16_0 : w5.cell? ⟨gb125, 0, none⟩ = some (.int .i64 a0_0) := (blk_cell BK125.out 0).trans rfl
        have hcz16_1 : w5.cell? ⟨gb125, 1, none⟩ = some (.int .i64 a0_1) := (blk_cell BK125.out 1).trans rfl
        have hcz16_2 : w5.cell? ⟨gb125, 2, none⟩ = some (.string a0_2) := (blk_cell BK125.out 2).trans rfl
        have hcz16_3 : w5.cell? ⟨gb125, 3, none⟩ = some (.slice A0_3 l0_3.length c0_3) := (blk_cell BK125.out 3).trans rfl
        have hfz16_0 := blk_frozen BK125.out 0
        have hfz16_1 := blk_frozen BK125.out 1
        have hfz16_2 := blk_frozen BK125.out 2
        have hfz16_3 := blk_frozen BK125.out 3
        have hcz17_0 : w5.cell? ⟨gb126, 0, none⟩ = some (.int .i64 a1_0) := (blk_cell BK126.out 0).trans rfl
        have hcz17_1 : w5.cell? ⟨gb126, 1, none⟩ = some (.int .i64 a1_1) := (blk_cell BK126.out 1).trans rfl
        have hcz17_2 : w5.cell? ⟨gb126, 2, none⟩ = some (.string a1_2) := (blk_cell BK126.out 2).trans rfl
        have hcz17_3 : w5.cell? ⟨gb126, 3, none⟩ = some (.slice A1_3 l1_3.length c1_3) := (blk_cell BK126.out 3).trans rfl
        have hfz17_0 := blk_frozen BK126.out 0
        have hfz17_1 := blk_frozen BK126.out 1
        have hfz17_2 := blk_frozen BK126.out 2
        have hfz17_3 := blk_frozen BK126.out 3
        go_wp2
        repeat (go_quiet (fail); try go_wp2)
        go_meet
        case rel => exact ⟨_, (false), (by first | rfl | (simp; done) | (simp [*]; done)), H', ⟨by first | omega | exact Nat.le_refl _⟩, ⟨by (with_reducible repeat (first | refine blk_drewN ?_ _ | refine blk_drew ?_ | refine blk_alloc ?_ _)); exact BK125.out⟩, ⟨by (with_reducible repeat (first | refine blk_drewN ?_ _ | refine blk_drew ?_ | refine blk_alloc ?_ _)); exact BK126.out⟩, ⟨by repeat (first | (with_reducible first | exact HB.out | apply below_alloc | apply pw_below_drewN | apply below_drew1 | refine below_set ?_ GE125.out | refine below_set ?_ GE126.out) | exact HB.out)⟩⟩
    · rw [if_neg c6] at H
      have c6b0 : (a0_0 == a1_0) = false := beq_eq_false_iff_ne.mpr c6
      have c6b1 : (a0_0 != a1_0) = true := bne_iff_ne.mpr c6
      (first | rw [c6b0] | (simp only [i64_w, i32_w]; rw [c6b0]) | skip)
      have H' := Aside0.mk H
      clear H
      have hnb18 := NB125_126.out
      have hnc18 := NB126_125.out
      have hcz19_0 : w5.cell? ⟨gb125, 0, none⟩ = some (.int .i64 a0_0) := (blk_cell BK125.out 0).trans rfl
      have hcz19_1 : w5.cell? ⟨gb125, 1, none⟩ = some (.int .i64 a0_1) := (blk_cell BK125.out 1).trans rfl
      have hcz19_2 : w5.cell? ⟨gb125, 2, none⟩ = some (.string a0_2) := (blk_cell BK125.out 2).trans rfl
      have hcz19_3 : w5.cell? ⟨gb125, 3, none⟩ = some (.slice A0_3 l0_3.length c0_3) := (blk_cell BK125.out 3).trans rfl
      have hfz19_0 := blk_frozen BK125.out 0
      have hfz19_1 := blk_frozen BK125.out 1
      have hfz19_2 := blk_frozen BK125.out 2
      have hfz19_3 := blk_frozen BK125.out 3
      have hcz20_0 : w5.cell? ⟨gb126, 0, none⟩ = some (.int .i64 a1_0) := (blk_cell BK126.out 0).trans rfl
      have hcz20_1 : w5.cell? ⟨gb126, 1, none⟩ = some (.int .i64 a1_1) := (blk_cell BK126.out 1).trans rfl
      have hcz20_2 : w5.cell? ⟨gb126, 2, none⟩ = some (.string a1_2) := (blk_cell BK126.out 2).trans rfl
      have hcz20_3 : w5.cell? ⟨gb126, 3, none⟩ = some (.slice A1_3 l1_3.length c1_3) := (blk_cell BK126.out 3).trans rfl
      have hfz20_0 := blk_frozen BK126.out 0
      have hfz20_1 := blk_frozen BK126.out 1
      have hfz20_2 := blk_frozen BK126.out 2
      have hfz20_3 := blk_frozen BK126.out 3
      go_wp2
      repeat (go_quiet (fail); try go_wp2)
      go_meet
      case rel => exact ⟨_, (false), (by first | rfl | (simp; done) | (simp [*]; done)), H', ⟨by first | omega | exact Nat.le_refl _⟩, ⟨by (with_reducible repeat (first | refine blk_drewN ?_ _ | refine blk_drew ?_ | refine blk_alloc ?_ _)); exact BK125.out⟩, ⟨by (with_reducible repeat (first | refine blk_drewN ?_ _ | refine blk_drew ?_ | refine blk_alloc ?_ _)); exact BK126.out⟩, ⟨by repeat (first | (with_reducible first | exact HB.out | apply below_alloc | apply pw_below_drewN | apply below_drew1 | refine below_set ?_ GE125.out | refine below_set ?_ GE126.out) | exact HB.out)⟩⟩
  case rest =>
    clear HC3
    try clear c1
    try clear c2
    try clear p2
    try clear c6
    try clear c6b0
    try clear c6b1
    try clear c7
    try clear c7b0
    try clear c7b1
    try clear c8
    try clear c8b0
    try clear c8b1
    try clear c9
    try clear c12
    try clear c15
    try clear c18
    try clear hcz10_0
    try clear hcz10_1
    try clear hcz10_2
    try clear hcz10_3
    try clear hcz11_0
    try clear hcz11_1
    try clear hcz11_2
    try clear hcz11_3
    try clear hcz13_0
    try clear hcz13_1
    try clear hcz13_2
    try clear hcz13_3
    try clear hcz14_0
    try clear hcz14_1
    try clear hcz14_2
    try clear hcz14_3
    try clear hcz16_0
    try clear hcz16_1
    try clear hcz16_2
    try clear hcz16_3
    try clear hcz17_0
    try clear hcz17_1
    try clear hcz17_2
    try clear hcz17_3
    try clear hcz19_0
    try clear hcz19_1
    try clear hcz19_2
    try clear hcz19_3
    try clear hcz20_0
    try clear hcz20_1
    try clear hcz20_2
    try clear hcz20_3
    try clear hfz10_0
    try clear hfz10_1
    try clear hfz10_2
    try clear hfz10_3
    try clear hfz11_0
    try clear hfz11_1
    try clear hfz11_2
    try clear hfz11_3
    try clear hfz13_0
    try clear hfz13_1
    try clear hfz13_2
    try clear hfz13_3
    try clear hfz14_0
    try clear hfz14_1
    try clear hfz14_2
    try clear hfz14_3
    try clear hfz16_0
    try clear hfz16_1
    try clear hfz16_2
    try clear hfz16_3
    try clear hfz17_0
    try clear hfz17_1
    try clear hfz17_2
    try clear hfz17_3
    try clear hfz19_0
    try clear hfz19_1
    try clear hfz19_2
    try clear hfz19_3
    try clear hfz20_0
    try clear hfz20_1
    try clear hfz20_2
    try clear hfz20_3
    obtain ⟨kq, x5_2, rfl, HA, HJ2, BK125, BK126, HB⟩ := hcut
    cases kq with
    | zero => exact absurd HA.out (by simp [switchyardref06_Same.j0])
    | succ kj2 =>
      have H := HA.out
      clear HA
      simp only [switchyardref06_Same.j0] at H
      have H' := Aside0.mk H
      clear H
      go_wp2
      repeat (go_quiet (fail); try go_wp2)
      go_loopg [5, 6] kj2 (fun kq v5 v6 w' => ∃ (x5_2 : Bool) (x6_2 : Int), v5 = .bool x5_2 ∧ v6 = .int .i64 x6_2 ∧ Aside0 (switchyardref06_Same.l0 kq x5_2 x6_2 a0_0 a0_1 a0_2 l0_3 a1_0 a1_1 a1_2 l1_3 = some r) ∧ Aside0 (kq ≤ kj2) ∧ Aside0 (w'.heap[gb125]? = some (.cells #[.int .i64 a0_0, .int .i64 a0_1, .string a0_2, (.slice A0_3 l0_3.length c0_3)] 49 (0, 0))) ∧ Aside0 (w'.heap[gb126]? = some (.cells #[.int .i64 a1_0, .int .i64 a1_1, .string a1_2, (.slice A1_3 l1_3.length c1_3)] 49 (0, 0))) ∧ Aside0 (Below w.heap.size w w'))
      case atStart => exact ⟨(x5_2), (0), (by first | rfl | (simp; done) | (simp [*]; done)), (by first | rfl | (simp; done) | (simp [*]; done)), H', ⟨Nat.le_refl _⟩, ⟨by (with_reducible repeat (first | refine blk_drewN ?_ _ | refine blk_drew ?_ | refine blk_alloc ?_ _)); exact BK125.out⟩, ⟨by (with_reducible repeat (first | refine blk_drewN ?_ _ | refine blk_drew ?_ | refine blk_alloc ?_ _)); exact BK126.out⟩, ⟨by repeat (first | (with_reducible first | exact HB.out | apply below_alloc | apply pw_below_drewN | apply below_drew1 | refine below_set ?_ GE125.out | refine below_set ?_ GE126.out) | exact HB.out)⟩⟩
      case round =>
        clear H'
        try clear c1
        try clear c2
        try clear p2
        try clear c6
        try clear c6b0
        try clear c6b1
        try clear c7
        try clear c7b0
        try clear c7b1
        try clear c8
        try clear c8b0
        try clear c8b1
        try clear c9
        try clear c12
        try clear c15
        try clear c18
        try clear hcz10_0
        try clear hcz10_1
        try clear hcz10_2
        try clear hcz10_3
        try clear hcz11_0
        try clear hcz11_1
        try clear hcz11_2
        try clear hcz11_3
        try clear hcz13_0
        try clear hcz13_1
        try clear hcz13_2
        try clear hcz13_3
        try clear hcz14_0
        try clear hcz14_1
        try clear hcz14_2
        try clear hcz14_3
        try clear hcz16_0
        try clear hcz16_1
        try clear hcz16_2
        try clear hcz16_3
        try clear hcz17_0
        try clear hcz17_1
        try clear hcz17_2
        try clear hcz17_3
        try clear hcz19_0
        try clear hcz19_1
        try clear hcz19_2
        try clear hcz19_3
        try clear hcz20_0
        try clear hcz20_1
        try clear hcz20_2
        try clear hcz20_3
        try clear hfz10_0
        try clear hfz10_1
        try clear hfz10_2
        try clear hfz10_3
        try clear hfz11_0
        try clear hfz11_1
        try clear hfz11_2
        try clear hfz11_3
        try clear hfz13_0
        try clear hfz13_1
        try clear hfz13_2
        try clear hfz13_3
        try clear hfz14_0
        try clear hfz14_1
        try clear hfz14_2
        try clear hfz14_3
        try clear hfz16_0
        try clear hfz16_1
        try clear hfz16_2
        try clear hfz16_3
        try clear hfz17_0
        try clear hfz17_1
        try clear hfz17_2
        try clear hfz17_3
        try clear hfz19_0
        try clear hfz19_1
        try clear hfz19_2
        try clear hfz19_3
        try clear hfz20_0
        try clear hfz20_1
        try clear hfz20_2
        try clear hfz20_3
        try clear p2
        obtain ⟨x5_2, x6_2, rfl, rfl, HA, HK2, BK125, BK126, HB⟩ := hrel
        cases gk with
        | zero => exact absurd HA.out (by simp [switchyardref06_Same.l0])
        | succ k2 =>
          have H := HA.out
          clear HA
          simp only [switchyardref06_Same.l0] at H
          by_cases c21 : x5_2 = true
          · subst c21
            have H1 : (if x6_2 < (l0_3.length : Int) then (if 0 ≤ x6_2 then (if x6_2 < (l1_3.length : Int) then (switchyardref06_Same.l0 k2 ((rd l0_3 x6_2) == (rd l1_3 x6_2)) (wrap64 (x6_2 + 1)) a0_0 a0_1 a0_2 l0_3 a1_0 a1_1 a1_2 l1_3) else (none)) else (none)) else (some true)) = some r := by rw [if_pos rfl] at H; exact H
            clear H
            have H := H1
            clear H1
            by_cases c22 : x6_2 < (l0_3.length : Int)
            · rw [if_pos c22] at H
              have c22b0 : decide (x6_2 < (l0_3.length : Int)) = true := decide_eq_true c22
              clear c22
              by_cases c23 : 0 ≤ x6_2
              · rw [if_pos c23] at H
                have c23b0 : decide (0 ≤ x6_2) = true := decide_eq_true c23
                clear c23
                by_cases c24 : x6_2 < (l1_3.length : Int)
                · rw [if_pos c24] at H
                  have c24b0 : decide (x6_2 < (l1_3.length : Int)) = true := decide_eq_true c24
                  clear c24
                  have H' := Aside0.mk H
                  clear H
                  have hnb25 := NB125_126.out
                  have hnc25 := NB126_125.out
                  have hcz26_0 : wr.cell? ⟨gb125, 0, none⟩ = some (.int .i64 a0_0) := (blk_cell BK125.out 0).trans rfl
                  have hcz26_1 : wr.cell? ⟨gb125, 1, none⟩ = some (.int .i64 a0_1) := (blk_cell BK125.out 1).trans rfl
                  have hcz26_2 : wr.cell? ⟨gb125, 2, none⟩ = some (.string a0_2) := (blk_cell BK125.out 2).trans rfl
                  have hcz26_3 : wr.cell? ⟨gb125, 3, none⟩ = some (.slice A0_3 l0_3.length c0_3) := (blk_cell BK125.out 3).trans rfl
                  have hfz26_0 := blk_frozen BK125.out 0
                  have hfz26_1 := blk_frozen BK125.out 1
                  have hfz26_2 := blk_frozen BK125.out 2
                  have hfz26_3 := blk_frozen BK125.out 3
                  have p127 : 0 ≤ (x6_2 : Int) := of_decide_eq_true (by first | (with_reducible assumption) | assumption)
                  have q127 : x6_2 < (l0_3.length : Int) := of_decide_eq_true (by first | (with_reducible assumption) | assumption)
                  obtain ⟨ad127, e127, hx127_0⟩ := Kd.at_int HR0_3.out x6_2 p127 q127
                  cases e127
                  replace hx127_0 := (HB.out.cell (World.block_lt_of_cell? w _ hx127_0)).trans hx127_0
                  replace p127 := eq_true p127
                  replace q127 := eq_true q127
                  have hcz27_0 : wr.cell? ⟨gb126, 0, none⟩ = some (.int .i64 a1_0) := (blk_cell BK126.out 0).trans rfl
                  have hcz27_1 : wr.cell? ⟨gb126, 1, none⟩ = some (.int .i64 a1_1) := (blk_cell BK126.out 1).trans rfl
                  have hcz27_2 : wr.cell? ⟨gb126, 2, none⟩ = some (.string a1_2) := (blk_cell BK126.out 2).trans rfl
                  have hcz27_3 : wr.cell? ⟨gb126, 3, none⟩ = some (.slice A1_3 l1_3.length c1_3) := (blk_cell BK126.out 3).trans rfl
                  have hfz27_0 := blk_frozen BK126.out 0
                  have hfz27_1 := blk_frozen BK126.out 1
                  have hfz27_2 := blk_frozen BK126.out 2
                  have hfz27_3 := blk_frozen BK126.out 3
                  have p128 : 0 ≤ (x6_2 : Int) := of_decide_eq_true (by first | (with_reducible assumption) | assumption)
                  have q128 : x6_2 < (l1_3.length : Int) := of_decide_eq_true (by first | (with_reducible assumption) | assumption)
                  obtain ⟨ad128, e128, hx128_0⟩ := Kd.at_int HR1_3.out x6_2 p128 q128
                  cases e128
                  replace hx128_0 := (HB.out.cell (World.block_lt_of_cell? w _ hx128_0)).trans hx128_0
                  replace p128 := eq_true p128
                  replace q128 := eq_true q128
                  go_wp2
                  repeat (go_quiet (fail); try go_wp2)
                  go_roundg k2
                  case measure => have := HJ2.out; have := HK2.out; omega
                  case rel => exact ⟨(((rd l0_3 x6_2) == (rd l1_3 x6_2))), (wrap64 (x6_2 + 1)), (by first | rfl | (simp; done) | (simp [*]; done)), (by first | rfl | (simp; done) | (simp [*]; done)), H', ⟨by have := HJ2.out; have := HK2.out; omega⟩, ⟨by (with_reducible repeat (first | refine blk_drewN ?_ _ | refine blk_drew ?_ | refine blk_alloc ?_ _)); exact BK125.out⟩, ⟨by (with_reducible repeat (first | refine blk_drewN ?_ _ | refine blk_drew ?_ | refine blk_alloc ?_ _)); exact BK126.out⟩, ⟨by repeat (first | (with_reducible first | exact HB.out | apply below_alloc | apply pw_below_drewN | apply below_drew1 | refine below_set ?_ GE125.out | refine below_set ?_ GE126.out) | exact HB.out)⟩⟩
                · rw [if_neg c24] at H
                  exact absurd H (by simp)
              · rw [if_neg c23] at H
                exact absurd H (by simp)
            · rw [if_neg c22] at H
              have c22b0 : decide (x6_2 < (l0_3.length : Int)) = false := decide_eq_false c22
              clear c22
              obtain rfl := Option.some.inj H
              have hnb28 := NB125_126.out
              have hnc28 := NB126_125.out
              have hcz29_0 : wr.cell? ⟨gb125, 0, none⟩ = some (.int .i64 a0_0) := (blk_cell BK125.out 0).trans rfl
              have hcz29_1 : wr.cell? ⟨gb125, 1, none⟩ = some (.int .i64 a0_1) := (blk_cell BK125.out 1).trans rfl
              have hcz29_2 : wr.cell? ⟨gb125, 2, none⟩ = some (.string a0_2) := (blk_cell BK125.out 2).trans rfl
              have hcz29_3 : wr.cell? ⟨gb125, 3, none⟩ = some (.slice A0_3 l0_3.length c0_3) := (blk_cell BK125.out 3).trans rfl
              have hfz29_0 := blk_frozen BK125.out 0
              have hfz29_1 := blk_frozen BK125.out 1
              have hfz29_2 := blk_frozen BK125.out 2
              have hfz29_3 := blk_frozen BK125.out 3
              go_wp2
              repeat (go_quiet (fail); try go_wp2)
              go_ret
              exact ⟨by first | rfl | (simp [errW_none, errW_some] <;> rfl) | (simp [*, errW_none, errW_some] <;> rfl), by repeat (first | (with_reducible first | exact HB.out | apply below_alloc | apply pw_below_drewN | apply below_drew1 | refine below_set ?_ GE125.out | refine below_set ?_ GE126.out) | exact HB.out)⟩
          · replace c21 := Bool.eq_false_iff.mpr c21
            subst c21
            have H1 : (some false) = some r := by rw [if_neg (show ¬ (false = true) by decide)] at H; exact H
            clear H
            have H := H1
            clear H1
            obtain rfl := Option.some.inj H
            go_wp2
            repeat (go_quiet (fail); try go_wp2)
            go_ret
            exact ⟨by first | rfl | (simp [errW_none, errW_some] <;> rfl) | (simp [*, errW_none, errW_some] <;> rfl), by repeat (first | (with_reducible first | exact HB.out | apply below_alloc | apply pw_below_drewN | apply below_drew1 | refine below_set ?_ GE125.out | refine below_set ?_ GE126.out) | exact HB.out)⟩
end Go.Proofs.Ythbcekjiljkchaa.XM
namespace Go.Proofs.Ythbcekjiljkchaa.XM
open Go.RowKit Go.Proofs.YthbcekjiljkchaaW.PrintWords Go.Proofs.YthbcekjiljkchaaW.PrintLast Go.Proofs.YthbcekjiljkchaaW.PrintMore
attribute [local go_sem] max2_int min2_int max_two min_two max_three min_three max_four min_four   -- for this text's walks alone
set_option linter.unusedVariables false
set_option linter.unusedSimpArgs false
def switchyardref06_SameAll.l0 : Nat → List (S49) → List (S49) → Int → Int → Option (Bool)
  | 0, _, _, _, _ => none
  | k + 1, x0, x1, x12, x13 => if x13 < x12 then (if 0 ≤ x13 then (if x13 < (x0.length : Int) then (if x13 < (x1.length : Int) then ((switchyardref06_Same.f k ((rd_T49 x0 x13).f0) ((rd_T49 x0 x13).f1) ((rd_T49 x0 x13).f2) ((rd_T49 x0 x13).f3) ((rd_T49 x1 x13).f0) ((rd_T49 x1 x13).f1) ((rd_T49 x1 x13).f2) ((rd_T49 x1 x13).f3)).bind fun t131 => (if t131 = true then (switchyardref06_SameAll.l0 k x0 x1 x12 (wrap64 (x13 + 1))) else (some false))) else (none)) else (none)) else (none)) else (some true)
def switchyardref06_SameAll.f (k : Nat) (l0 : List (S49)) (l1 : List (S49)) : Option (Bool) := if (l0.length : Int) = (l1.length : Int) then (switchyardref06_SameAll.l0 k l0 l1 (l0.length : Int) 0) else (some false)
def switchyardref06_SameAll.T6 : Bool × List (List Nat × List Nat) := (true, [([], []), ([], []), ([0, 1], [0, 1]), ([2], [2]), ([], []), ([], []), ([4, 5], [4, 5]), ([6], [6]), ([3, 7], [3, 7]), ([8], [8])])
def switchyardref06_SameAll.B6 : List Nat := [0, 0, 3, 7, 0, 0, 48, 112, 255, 511]
theorem switchyardref06_SameAll.tab6 : rtab .any (opsOf Try.f21 6) = switchyardref06_SameAll.T6 := by kernel_rfl
theorem switchyardref06_SameAll.bits6 : waitsOk switchyardref06_SameAll.T6.2 switchyardref06_SameAll.B6 = true := by kernel_rfl
set_option maxHeartbeats 600000 in
set_option maxRecDepth 100000 in
theorem switchyardref06_SameAll.calls (k : Nat) (A0 : Option Addr) (c0 : Nat) (l0 : List (S49)) (A1 : Option Addr) (c1 : Nat) (l1 : List (S49)) (r : Bool) (w : World) (hr0 : Kd.C k49 w A0 l0.length l0) (hc0 : l0.length ≤ c0) (hr1 : Kd.C k49 w A1 l1.length l1) (hc1 : l1.length ≤ c1) (h : switchyardref06_SameAll.f k l0 l1 = some r) :
    Calls Try.prog 21 #[.slice A0 l0.length c0, .slice A1 l1.length c1] w fun e w' => e = .returned (.bool r) ∧ Below w.heap.size w w' := by
  have hu49 := Try.underlying49
  have HR0 := Aside0.mk hr0
  have HC0 := Aside0.mk hc0
  clear hr0 hc0
  have HR1 := Aside0.mk hr1
  have HC1 := Aside0.mk hc1
  clear hr1 hc1
  have HB := Aside0.mk (Below.refl w.heap.size w)
  have H : (if (l0.length : Int) = (l1.length : Int) then (switchyardref06_SameAll.l0 k l0 l1 (l0.length : Int) 0) else (some false)) = some r := h
  clear h
  by_cases c3 : (l0.length : Int) = (l1.length : Int)
  · rw [if_pos c3] at H
    have c3b0 : ((l0.length : Int) == (l1.length : Int)) = true := beq_iff_eq.mpr c3
    have c3b1 : ((l0.length : Int) != (l1.length : Int)) = false := bne_eq_false_iff_eq.mpr c3
    have c3b2 : (l0.length == l1.length) = true := by first | simpa using c3 | (simp at c3 ⊢; omega)
    clear c3
    have H' := Aside0.mk H
    clear H
    go_enter Try.func21, Try.ntmps21
    go_wp2
    go_loopg [13] k (fun kq v13 w' => ∃ (x13_1 : Int), v13 = .int .i64 x13_1 ∧ Aside0 (switchyardref06_SameAll.l0 kq l0 l1 (l0.length : Int) x13_1 = some r) ∧ Aside0 (kq ≤ k) ∧ Aside0 (Below w.heap.size w w'))
    case atStart => exact ⟨(0), (by first | rfl | (simp; done) | (simp [*]; done)), H', ⟨Nat.le_refl _⟩, ⟨by repeat (first | (with_reducible first | exact HB.out | apply below_alloc | apply pw_below_drewN | apply below_drew1) | exact HB.out)⟩⟩
    case round =>
      clear H'
      try clear c1
      try clear c2
      try clear p2
      try clear c3
      try clear c3b0
      try clear c3b1
      try clear c3b2
      obtain ⟨x13_1, rfl, HA, HK1, HB⟩ := hrel
      cases gk with
      | zero => exact absurd HA.out (by simp [switchyardref06_SameAll.l0])
      | succ k1 =>
        have H := HA.out
        clear HA
        simp only [switchyardref06_SameAll.l0] at H
        by_cases c4 : x13_1 < (l0.length : Int)
        · rw [if_pos c4] at H
          have c4b0 : decide (x13_1 < (l0.length : Int)) = true := decide_eq_true c4
          clear c4
          by_cases c5 : 0 ≤ x13_1
          · rw [if_pos c5] at H
            have c5b0 : decide (0 ≤ x13_1) = true := decide_eq_true c5
            clear c5
            by_cases c6 : x13_1 < (l0.length : Int)
            · rw [if_pos c6] at H
              have c6b0 : decide (x13_1 < (l0.length : Int)) = true := decide_eq_true c6
              clear c6
              by_cases c7 : x13_1 < (l1.length : Int)
              · rw [if_pos c7] at H
                have c7b0 : decide (x13_1 < (l1.length : Int)) = true := decide_eq_true c7
                clear c7
                replace H := Option.bind_eq_some_iff.mp H
                obtain ⟨t131, A80, H⟩ := H
                replace H : (if t131 = true then (switchyardref06_SameAll.l0 k1 l0 l1 (l0.length : Int) (wrap64 (x13_1 + 1))) else (some false)) = some r := H
                have A8 := Aside0.mk A80
                clear A80
                by_cases c9 : t131 = true
                · subst c9
                  have H1 : (switchyardref06_SameAll.l0 k1 l0 l1 (l0.length : Int) (wrap64 (x13_1 + 1))) = some r := by rw [if_pos rfl] at H; exact H
                  clear H
                  have H := H1
                  clear H1
                  have H' := Aside0.mk H
                  clear H
                  try go_wp2
                  have n0_ := Aside0.mk (below_drew1 HB.out)
                  clear HB
                  have HB := n0_
                  clear n0_
                  have p129 : 0 ≤ (x13_1 : Int) := of_decide_eq_true (by first | (with_reducible assumption) | assumption)
                  have q129 : x13_1 < (l0.length : Int) := of_decide_eq_true (by first | (with_reducible assumption) | assumption)
                  obtain ⟨ad129, A129_3, c129_3, e129, hx129_0, hx129_1, hx129_2, hx129_3, hl129_3, hi129_3⟩ := at_T49 HR0.out x13_1 p129 q129
                  have hw129_3 := hx129_3
                  have hw129_2 := hx129_2
                  have hw129_1 := hx129_1
                  have hw129_0 := hx129_0
                  cases e129
                  replace hx129_0 := (HB.out.cell (World.block_lt_of_cell? w _ hx129_0)).trans hx129_0
                  replace hx129_1 := (HB.out.cell (World.block_lt_of_cell? w _ hx129_1)).trans hx129_1
                  replace hx129_2 := (HB.out.cell (World.block_lt_of_cell? w _ hx129_2)).trans hx129_2
                  replace hx129_3 := (HB.out.cell (World.block_lt_of_cell? w _ hx129_3)).trans hx129_3
                  have HR129_3 := Aside0.mk hi129_3
                  have HC129_3 := Aside0.mk hl129_3
                  clear hi129_3 hl129_3
                  replace p129 := eq_true p129
                  replace q129 := eq_true q129
                  have p130 : 0 ≤ (x13_1 : Int) := of_decide_eq_true (by first | (with_reducible assumption) | assumption)
                  have q130 : x13_1 < (l1.length : Int) := of_decide_eq_true (by first | (with_reducible assumption) | assumption)
                  obtain ⟨ad130, A130_3, c130_3, e130, hx130_0, hx130_1, hx130_2, hx130_3, hl130_3, hi130_3⟩ := at_T49 HR1.out x13_1 p130 q130
                  have hw130_3 := hx130_3
                  have hw130_2 := hx130_2
                  have hw130_1 := hx130_1
                  have hw130_0 := hx130_0
                  cases e130
                  replace hx130_0 := (HB.out.cell (World.block_lt_of_cell? w _ hx130_0)).trans hx130_0
                  replace hx130_1 := (HB.out.cell (World.block_lt_of_cell? w _ hx130_1)).trans hx130_1
                  replace hx130_2 := (HB.out.cell (World.block_lt_of_cell? w _ hx130_2)).trans hx130_2
                  replace hx130_3 := (HB.out.cell (World.block_lt_of_cell? w _ hx130_3)).trans hx130_3
                  have HR130_3 := Aside0.mk hi130_3
                  have HC130_3 := Aside0.mk hl130_3
                  clear hi130_3 hl130_3
                  replace p130 := eq_true p130
                  replace q130 := eq_true q130
                  refine start_ (n := 10) (S := fun w' => w'.cell? (ad129.add ((x13_1).toNat * 4)) = some (.int .i64 ((rd_T49 l0 x13_1).f0)) ∧ w'.cell? ⟨(ad129.add ((x13_1).toNat * 4)).block, (ad129.add ((x13_1).toNat * 4)).off + 1, none⟩ = some (.int .i64 ((rd_T49 l0 x13_1).f1)) ∧ w'.cell? ⟨(ad129.add ((x13_1).toNat * 4)).block, (ad129.add ((x13_1).toNat * 4)).off + 2, none⟩ = some (.string ((rd_T49 l0 x13_1).f2)) ∧ w'.cell? ⟨(ad129.add ((x13_1).toNat * 4)).block, (ad129.add ((x13_1).toNat * 4)).off + 3, none⟩ = some (.slice A129_3 ((rd_T49 l0 x13_1).f3).length c129_3) ∧ w'.cell? (ad130.add ((x13_1).toNat * 4)) = some (.int .i64 ((rd_T49 l1 x13_1).f0)) ∧ w'.cell? ⟨(ad130.add ((x13_1).toNat * 4)).block, (ad130.add ((x13_1).toNat * 4)).off + 1, none⟩ = some (.int .i64 ((rd_T49 l1 x13_1).f1)) ∧ w'.cell? ⟨(ad130.add ((x13_1).toNat * 4)).block, (ad130.add ((x13_1).toNat * 4)).off + 2, none⟩ = some (.string ((rd_T49 l1 x13_1).f2)) ∧ w'.cell? ⟨(ad130.add ((x13_1).toNat * 4)).block, (ad130.add ((x13_1).toNat * 4)).off + 3, none⟩ = some (.slice A130_3 ((rd_T49 l1 x13_1).f3).length c130_3)) (ds := []) #[false, false, false, false, false, false, false, false, false, false] (by kernel_rfl) rfl rfl ⟨((HB.out.cell (World.block_lt_of_cell? w _ hw129_0)).trans hw129_0), ((HB.out.cell (World.block_lt_of_cell? w _ hw129_1)).trans hw129_1), ((HB.out.cell (World.block_lt_of_cell? w _ hw129_2)).trans hw129_2), ((HB.out.cell (World.block_lt_of_cell? w _ hw129_3)).trans hw129_3), ((HB.out.cell (World.block_lt_of_cell? w _ hw130_0)).trans hw130_0), ((HB.out.cell (World.block_lt_of_cell? w _ hw130_1)).trans hw130_1), ((HB.out.cell (World.block_lt_of_cell? w _ hw130_2)).trans hw130_2), ((HB.out.cell (World.block_lt_of_cell? w _ hw130_3)).trans hw130_3)⟩ (fun hHeld => ?_); refine with_tabW switchyardref06_SameAll.tab6 switchyardref06_SameAll.bits6 (fun HT_ HW_ => ?_)
                  generalize wr.drew = w10 at HB HR129_3 HR130_3 hx129_0 hx129_1 hx129_2 hx129_3 hx130_0 hx130_1 hx130_2 hx130_3 hHeld ⊢
                  refine pure_ (i := 0) (N := some 16) (v := ?_) (a' := ?_) #[true, false, false, false, false, false, false, false, false, false] rfl rfl (any_of HT_.out (by kernel_rfl)) (fun _ _ _ h => h) (Or.inl ⟨by rfl, ?_⟩) ?_ ?_
                  rotate_left
                  · intro w'
                    go_simp
                    with_reducible rfl
                  rotate_left
                  · simp only [Act.put, List.setIfInBounds_toArray, List.set_cons_zero, List.set_cons_succ, i64_w, i32_w]
                    rfl
                  refine pure_ (i := 1) (N := some 17) (v := ?_) (a' := ?_) #[true, true, false, false, false, false, false, false, false, false] rfl rfl (any_of HT_.out (by kernel_rfl)) (fun _ _ _ h => h) (Or.inl ⟨by rfl, ?_⟩) ?_ ?_
                  rotate_left
                  · intro w'
                    go_simp
                    with_reducible rfl
                  rotate_left
                  · simp only [Act.put, List.setIfInBounds_toArray, List.set_cons_zero, List.set_cons_succ, i64_w, i32_w]
                    rfl
                  refine pure_ (i := 2) (N := some 18) (v := ?_) (a' := ?_) #[true, true, true, false, false, false, false, false, false, false] rfl rfl (any_of HT_.out (by kernel_rfl)) (fun _ _ _ h => h) (Or.inl ⟨by rfl, ?_⟩) ?_ ?_
                  rotate_left
                  · intro w'
                    go_simp
                    with_reducible rfl
                  rotate_left
                  · simp only [Act.put, List.setIfInBounds_toArray, List.set_cons_zero, List.set_cons_succ, i64_w, i32_w]
                    rfl
                  refine pure_ (i := 4) (N := some 20) (v := ?_) (a' := ?_) #[true, true, true, false, true, false, false, false, false, false] rfl rfl (any_of HT_.out (by kernel_rfl)) (fun _ _ _ h => h) (Or.inl ⟨by rfl, ?_⟩) ?_ ?_
                  rotate_left
                  · intro w'
                    go_simp
                    with_reducible rfl
                  rotate_left
                  · simp only [Act.put, List.setIfInBounds_toArray, List.set_cons_zero, List.set_cons_succ, i64_w, i32_w]
                    rfl
                  refine pure_ (i := 5) (N := some 21) (v := ?_) (a' := ?_) #[true, true, true, false, true, true, false, false, false, false] rfl rfl (any_of HT_.out (by kernel_rfl)) (fun _ _ _ h => h) (Or.inl ⟨by rfl, ?_⟩) ?_ ?_
                  rotate_left
                  · intro w'
                    go_simp
                    with_reducible rfl
                  rotate_left
                  · simp only [Act.put, List.setIfInBounds_toArray, List.set_cons_zero, List.set_cons_succ, i64_w, i32_w]
                    rfl
                  refine pure_ (i := 6) (N := some 22) (v := ?_) (a' := ?_) #[true, true, true, false, true, true, true, false, false, false] rfl rfl (any_of HT_.out (by kernel_rfl)) (fun _ _ _ h => h) (Or.inl ⟨by rfl, ?_⟩) ?_ ?_
                  rotate_left
                  · intro w'
                    go_simp
                    with_reducible rfl
                  rotate_left
                  · simp only [Act.put, List.setIfInBounds_toArray, List.set_cons_zero, List.set_cons_succ, i64_w, i32_w]
                    rfl
                  refine take_ (i := 3) (N := some 19) (v := ?_) (a' := ?_) #[true, true, true, true, true, true, true, false, false, false] rfl rfl (take_ofW HT_.out HW_.out (by kernel_rfl)) (fun _ _ _ h => h) (Or.inl ⟨by rfl, ?_⟩) hHeld ?_ ?_
                  rotate_left
                  · rintro w' ⟨s0, s1, s2, s3, s4, s5, s6, s7⟩
                    go_simp
                    with_reducible rfl
                  rotate_left
                  · simp only [Act.put, List.setIfInBounds_toArray, List.set_cons_zero, List.set_cons_succ, i64_w, i32_w]
                    rfl
                  refine take_ (i := 7) (N := some 23) (v := ?_) (a' := ?_) #[true, true, true, true, true, true, true, true, false, false] rfl rfl (take_ofW HT_.out HW_.out (by kernel_rfl)) (fun _ _ _ h => h) (Or.inl ⟨by rfl, ?_⟩) hHeld ?_ ?_
                  rotate_left
                  · rintro w' ⟨s0, s1, s2, s3, s4, s5, s6, s7⟩
                    go_simp
                    with_reducible rfl
                  rotate_left
                  · simp only [Act.put, List.setIfInBounds_toArray, List.set_cons_zero, List.set_cons_succ, i64_w, i32_w]
                    rfl
                  refine one_ (i := 8) (N := some 24) #[true, true, true, true, true, true, true, true, true, false] rfl rfl (one_of HT_.out (by kernel_rfl)) (by decide) (fun K hK => ?_)
                  refine goes_ Try.func23 (by kernel_rfl) rfl #[.agg #[.int .i64 ((rd_T49 l0 x13_1).f0), .int .i64 ((rd_T49 l0 x13_1).f1), .string ((rd_T49 l0 x13_1).f2), .slice A129_3 ((rd_T49 l0 x13_1).f3).length c129_3], .agg #[.int .i64 ((rd_T49 l1 x13_1).f0), .int .i64 ((rd_T49 l1 x13_1).f1), .string ((rd_T49 l1 x13_1).f2), .slice A130_3 ((rd_T49 l1 x13_1).f3).length c130_3]] (by rfl) rfl rfl (by (try simp only [List.map_toArray, List.map_cons, List.map_nil]); first | done | rfl | (simp only [List.length_drop, List.length_take]; rfl)) ?_
                  with_reducible refine (switchyardref06_Same.calls k1 ((rd_T49 l0 x13_1).f0) ((rd_T49 l0 x13_1).f1) ((rd_T49 l0 x13_1).f2) _ _ ((rd_T49 l0 x13_1).f3) ((rd_T49 l1 x13_1).f0) ((rd_T49 l1 x13_1).f1) ((rd_T49 l1 x13_1).f2) _ _ ((rd_T49 l1 x13_1).f3) true _ ?side1 ?side2 ?side3 ?side4 A8.out).mono ?_
                  (case side1 => repeat (first | exact (Kd.C_below HR129_3.out HB.out) | (with_reducible refine Kd.C_alloc ?_ _) | (with_reducible refine Kd.C_drewN ?_ _) | (with_reducible refine Kd.C_drew ?_)))
                  (case side2 => exact HC129_3.out)
                  (case side3 => repeat (first | exact (Kd.C_below HR130_3.out HB.out) | (with_reducible refine Kd.C_alloc ?_ _) | (with_reducible refine Kd.C_drewN ?_ _) | (with_reducible refine Kd.C_drew ?_)))
                  (case side4 => exact HC130_3.out)
                  rintro e w11 ⟨rfl, hb⟩
                  refine ⟨_, rfl, ?_⟩
                  have n0_ := Aside0.mk (below_step (by repeat (first | (with_reducible first | exact HB.out | apply below_alloc | apply pw_below_drewN | apply below_drew1) | exact HB.out)) hb)
                  clear HB
                  have HB := n0_
                  clear n0_
                  (try clear hb)
                  (try clear hb2)
                  (try clear hk)
                  (try clear hi)
                  refine hK.out _ _ ⟨((HB.out.cell (World.block_lt_of_cell? w _ hw129_0)).trans hw129_0), ((HB.out.cell (World.block_lt_of_cell? w _ hw129_1)).trans hw129_1), ((HB.out.cell (World.block_lt_of_cell? w _ hw129_2)).trans hw129_2), ((HB.out.cell (World.block_lt_of_cell? w _ hw129_3)).trans hw129_3), ((HB.out.cell (World.block_lt_of_cell? w _ hw130_0)).trans hw130_0), ((HB.out.cell (World.block_lt_of_cell? w _ hw130_1)).trans hw130_1), ((HB.out.cell (World.block_lt_of_cell? w _ hw130_2)).trans hw130_2), ((HB.out.cell (World.block_lt_of_cell? w _ hw130_3)).trans hw130_3)⟩ (fun hHeld => ?_)
                  clear hK K
                  refine norm_ (a' := ?_) ?_ ?_
                  rotate_left
                  · show Act.put _ (some 24) _ = _
                    simp only [Act.put, List.setIfInBounds_toArray, List.set_cons_zero, List.set_cons_succ, i64_w, i32_w]
                    rfl
                  refine pure_ (i := 9) (N := some 25) (v := ?_) (a' := ?_) #[true, true, true, true, true, true, true, true, true, true] rfl rfl (any_of HT_.out (by kernel_rfl)) (fun _ _ _ h => h) (Or.inl ⟨by rfl, ?_⟩) ?_ ?_
                  rotate_left
                  · intro w'
                    go_simp
                    with_reducible rfl
                  rotate_left
                  · simp only [Act.put, List.setIfInBounds_toArray, List.set_cons_zero, List.set_cons_succ, i64_w, i32_w]
                    rfl
                  refine done_ (done_of HT_.out (by kernel_rfl)) ?_
                  try go_wp2
                  go_roundg k1
                  case measure => have := HK1.out; omega
                  case rel => exact ⟨(wrap64 (x13_1 + 1)), (by first | rfl | (simp; done) | (simp [*]; done)), H', ⟨by have := HK1.out; omega⟩, ⟨by repeat (first | (with_reducible first | exact HB.out | apply below_alloc | apply pw_below_drewN | apply below_drew1) | exact HB.out)⟩⟩
                · replace c9 := Bool.eq_false_iff.mpr c9
                  subst c9
                  have H1 : (some false) = some r := by rw [if_neg (show ¬ (false = true) by decide)] at H; exact H
                  clear H
                  have H := H1
                  clear H1
                  obtain rfl := Option.some.inj H
                  try go_wp2
                  have n0_ := Aside0.mk (below_drew1 HB.out)
                  clear HB
                  have HB := n0_
                  clear n0_
                  have p129 : 0 ≤ (x13_1 : Int) := of_decide_eq_true (by first | (with_reducible assumption) | assumption)
                  have q129 : x13_1 < (l0.length : Int) := of_decide_eq_true (by first | (with_reducible assumption) | assumption)
                  obtain ⟨ad129, A129_3, c129_3, e129, hx129_0, hx129_1, hx129_2, hx129_3, hl129_3, hi129_3⟩ := at_T49 HR0.out x13_1 p129 q129
                  have hw129_3 := hx129_3
                  have hw129_2 := hx129_2
                  have hw129_1 := hx129_1
                  have hw129_0 := hx129_0
                  cases e129
                  replace hx129_0 := (HB.out.cell (World.block_lt_of_cell? w _ hx129_0)).trans hx129_0
                  replace hx129_1 := (HB.out.cell (World.block_lt_of_cell? w _ hx129_1)).trans hx129_1
                  replace hx129_2 := (HB.out.cell (World.block_lt_of_cell? w _ hx129_2)).trans hx129_2
                  replace hx129_3 := (HB.out.cell (World.block_lt_of_cell? w _ hx129_3)).trans hx129_3
                  have HR129_3 := Aside0.mk hi129_3
                  have HC129_3 := Aside0.mk hl129_3
                  clear hi129_3 hl129_3
                  replace p129 := eq_true p129
                  replace q129 := eq_true q129
                  have p130 : 0 ≤ (x13_1 : Int) := of_decide_eq_true (by first | (with_reducible assumption) | assumption)
                  have q130 : x13_1 < (l1.length : Int) := of_decide_eq_true (by first | (with_reducible assumption) | assumption)
                  obtain ⟨ad130, A130_3, c130_3, e130, hx130_0, hx130_1, hx130_2, hx130_3, hl130_3, hi130_3⟩ := at_T49 HR1.out x13_1 p130 q130
                  have hw130_3 := hx130_3
                  have hw130_2 := hx130_2
                  have hw130_1 := hx130_1
                  have hw130_0 := hx130_0
                  cases e130
                  replace hx130_0 := (HB.out.cell (World.block_lt_of_cell? w _ hx130_0)).trans hx130_0
                  replace hx130_1 := (HB.out.cell (World.block_lt_of_cell? w _ hx130_1)).trans hx130_1
                  replace hx130_2 := (HB.out.cell (World.block_lt_of_cell? w _ hx130_2)).trans hx130_2
                  replace hx130_3 := (HB.out.cell (World.block_lt_of_cell? w _ hx130_3)).trans hx130_3
                  have HR130_3 := Aside0.mk hi130_3
                  have HC130_3 := Aside0.mk hl130_3
                  clear hi130_3 hl130_3
                  replace p130 := eq_true p130
                  replace q130 := eq_true q130
                  refine start_ (n := 10) (S := fun w' => w'.cell? (ad129.add ((x13_1).toNat * 4)) = some (.int .i64 ((rd_T49 l0 x13_1).f0)) ∧ w'.cell? ⟨(ad129.add ((x13_1).toNat * 4)).block, (ad129.add ((x13_1).toNat * 4)).off + 1, none⟩ = some (.int .i64 ((rd_T49 l0 x13_1).f1)) ∧ w'.cell? ⟨(ad129.add ((x13_1).toNat * 4)).block, (ad129.add ((x13_1).toNat * 4)).off + 2, none⟩ = some (.string ((rd_T49 l0 x13_1).f2)) ∧ w'.cell? ⟨(ad129.add ((x13_1).toNat * 4)).block, (ad129.add ((x13_1).toNat * 4)).off + 3, none⟩ = some (.slice A129_3 ((rd_T49 l0 x13_1).f3).length c129_3) ∧ w'.cell? (ad130.add ((x13_1).toNat * 4)) = some (.int .i64 ((rd_T49 l1 x13_1).f0)) ∧ w'.cell? ⟨(ad130.add ((x13_1).toNat * 4)).block, (ad130.add ((x13_1).toNat * 4)).off + 1, none⟩ = some (.int .i64 ((rd_T49 l1 x13_1).f1)) ∧ w'.cell? ⟨(ad130.add ((x13_1).toNat * 4)).block, (ad130.add ((x13_1).toNat * 4)).off + 2, none⟩ = some (.string ((rd_T49 l1 x13_1).f2)) ∧ w'.cell? ⟨(ad130.add ((x13_1).toNat * 4)).block, (ad130.add ((x13_1).toNat * 4)).off + 3, none⟩ = some (.slice A130_3 ((rd_T49 l1 x13_1).f3).length c130_3)) (ds := []) #[false, false, false, false, false, false, false, false, false, false] (by kernel_rfl) rfl rfl ⟨((HB.out.cell (World.block_lt_of_cell? w _ hw129_0)).trans hw129_0), ((HB.out.cell (World.block_lt_of_cell? w _ hw129_1)).trans hw129_1), ((HB.out.cell (World.block_lt_of_cell? w _ hw129_2)).trans hw129_2), ((HB.out.cell (World.block_lt_of_cell? w _ hw129_3)).trans hw129_3), ((HB.out.cell (World.block_lt_of_cell? w _ hw130_0)).trans hw130_0), ((HB.out.cell (World.block_lt_of_cell? w _ hw130_1)).trans hw130_1), ((HB.out.cell (World.block_lt_of_cell? w _ hw130_2)).trans hw130_2), ((HB.out.cell (World.block_lt_of_cell? w _ hw130_3)).trans hw130_3)⟩ (fun hHeld => ?_); refine with_tabW switchyardref06_SameAll.tab6 switchyardref06_SameAll.bits6 (fun HT_ HW_ => ?_)
                  generalize wr.drew = w12 at HB HR129_3 HR130_3 hx129_0 hx129_1 hx129_2 hx129_3 hx130_0 hx130_1 hx130_2 hx130_3 hHeld ⊢
                  refine pure_ (i := 0) (N := some 16) (v := ?_) (a' := ?_) #[true, false, false, false, false, false, false, false, false, false] rfl rfl (any_of HT_.out (by kernel_rfl)) (fun _ _ _ h => h) (Or.inl ⟨by rfl, ?_⟩) ?_ ?_
                  rotate_left
                  · intro w'
                    go_simp
                    with_reducible rfl
                  rotate_left
                  · simp only [Act.put, List.setIfInBounds_toArray, List.set_cons_zero, List.set_cons_succ, i64_w, i32_w]
                    rfl
                  refine pure_ (i := 1) (N := some 17) (v := ?_) (a' := ?_) #[true, true, false, false, false, false, false, false, false, false] rfl rfl (any_of HT_.out (by kernel_rfl)) (fun _ _ _ h => h) (Or.inl ⟨by rfl, ?_⟩) ?_ ?_
                  rotate_left
                  · intro w'
                    go_simp
                    with_reducible rfl
                  rotate_left
                  · simp only [Act.put, List.setIfInBounds_toArray, List.set_cons_zero, List.set_cons_succ, i64_w, i32_w]
                    rfl
                  refine pure_ (i := 2) (N := some 18) (v := ?_) (a' := ?_) #[true, true, true, false, false, false, false, false, false, false] rfl rfl (any_of HT_.out (by kernel_rfl)) (fun _ _ _ h => h) (Or.inl ⟨by rfl, ?_⟩) ?_ ?_
                  rotate_left
                  · intro w'
                    go_simp
                    with_reducible rfl
                  rotate_left
                  · simp only [Act.put, List.setIfInBounds_toArray, List.set_cons_zero, List.set_cons_succ, i64_w, i32_w]
                    rfl
                  refine pure_ (i := 4) (N := some 20) (v := ?_) (a' := ?_) #[true, true, true, false, true, false, false, false, false, false] rfl rfl (any_of HT_.out (by kernel_rfl)) (fun _ _ _ h => h) (Or.inl ⟨by rfl, ?_⟩) ?_ ?_
                  rotate_left
                  · intro w'
                    go_simp
                    with_reducible rfl
                  rotate_left
                  · simp only [Act.put, List.setIfInBounds_toArray, List.set_cons_zero, List.set_cons_succ, i64_w, i32_w]
                    rfl
                  refine pure_ (i := 5) (N := some 21) (v := ?_) (a' := ?_) #[true, true, true, false, true, true, false, false, false, false] rfl rfl (any_of HT_.out (by kernel_rfl)) (fun _ _ _ h => h) (Or.inl ⟨by rfl, ?_⟩) ?_ ?_
                  rotate_left
                  · intro w'
                    go_simp
                    with_reducible rfl
                  rotate_left
                  · simp only [Act.put, List.setIfInBounds_toArray, List.set_cons_zero, List.set_cons_succ, i64_w, i32_w]
                    rfl
                  refine pure_ (i := 6) (N := some 22) (v := ?_) (a' := ?_) #[true, true, true, false, true, true, true, false, false, false] rfl rfl (any_of HT_.out (by kernel_rfl)) (fun _ _ _ h => h) (Or.inl ⟨by rfl, ?_⟩) ?_ ?_
                  rotate_left
                  · intro w'
                    go_simp
                    with_reducible rfl
                  rotate_left
                  · simp only [Act.put, List.setIfInBounds_toArray, List.set_cons_zero, List.set_cons_succ, i64_w, i32_w]
                    rfl
                  refine take_ (i := 3) (N := some 19) (v := ?_) (a' := ?_) #[true, true, true, true, true, true, true, false, false, false] rfl rfl (take_ofW HT_.out HW_.out (by kernel_rfl)) (fun _ _ _ h => h) (Or.inl ⟨by rfl, ?_⟩) hHeld ?_ ?_
                  rotate_left
                  · rintro w' ⟨s0, s1, s2, s3, s4, s5, s6, s7⟩
                    go_simp
                    with_reducible rfl
                  rotate_left
                  · simp only [Act.put, List.setIfInBounds_toArray, List.set_cons_zero, List.set_cons_succ, i64_w, i32_w]
                    rfl
                  refine take_ (i := 7) (N := some 23) (v := ?_) (a' := ?_) #[true, true, true, true, true, true, true, true, false, false] rfl rfl (take_ofW HT_.out HW_.out (by kernel_rfl)) (fun _ _ _ h => h) (Or.inl ⟨by rfl, ?_⟩) hHeld ?_ ?_
                  rotate_left
                  · rintro w' ⟨s0, s1, s2, s3, s4, s5, s6, s7⟩
                    go_simp
                    with_reducible rfl
                  rotate_left
                  · simp only [Act.put, List.setIfInBounds_toArray, List.set_cons_zero, List.set_cons_succ, i64_w, i32_w]
                    rfl
                  refine one_ (i := 8) (N := some 24) #[true, true, true, true, true, true, true, true, true, false] rfl rfl (one_of HT_.out (by kernel_rfl)) (by decide) (fun K hK => ?_)
                  refine goes_ Try.func23 (by kernel_rfl) rfl #[.agg #[.int .i64 ((rd_T49 l0 x13_1).f0), .int .i64 ((rd_T49 l0 x13_1).f1), .string ((rd_T49 l0 x13_1).f2), .slice A129_3 ((rd_T49 l0 x13_1).f3).length c129_3], .agg #[.int .i64 ((rd_T49 l1 x13_1).f0), .int .i64 ((rd_T49 l1 x13_1).f1), .string ((rd_T49 l1 x13_1).f2), .slice A130_3 ((rd_T49 l1 x13_1).f3).length c130_3]] (by rfl) rfl rfl (by (try simp only [List.map_toArray, List.map_cons, List.map_nil]); first | done | rfl | (simp only [List.length_drop, List.length_take]; rfl)) ?_
                  with_reducible refine (switchyardref06_Same.calls k1 ((rd_T49 l0 x13_1).f0) ((rd_T49 l0 x13_1).f1) ((rd_T49 l0 x13_1).f2) _ _ ((rd_T49 l0 x13_1).f3) ((rd_T49 l1 x13_1).f0) ((rd_T49 l1 x13_1).f1) ((rd_T49 l1 x13_1).f2) _ _ ((rd_T49 l1 x13_1).f3) false _ ?side1 ?side2 ?side3 ?side4 A8.out).mono ?_
                  (case side1 => repeat (first | exact (Kd.C_below HR129_3.out HB.out) | (with_reducible refine Kd.C_alloc ?_ _) | (with_reducible refine Kd.C_drewN ?_ _) | (with_reducible refine Kd.C_drew ?_)))
                  (case side2 => exact HC129_3.out)
                  (case side3 => repeat (first | exact (Kd.C_below HR130_3.out HB.out) | (with_reducible refine Kd.C_alloc ?_ _) | (with_reducible refine Kd.C_drewN ?_ _) | (with_reducible refine Kd.C_drew ?_)))
                  (case side4 => exact HC130_3.out)
                  rintro e w13 ⟨rfl, hb⟩
                  refine ⟨_, rfl, ?_⟩
                  have n0_ := Aside0.mk (below_step (by repeat (first | (with_reducible first | exact HB.out | apply below_alloc | apply pw_below_drewN | apply below_drew1) | exact HB.out)) hb)
                  clear HB
                  have HB := n0_
                  clear n0_
                  (try clear hb)
                  (try clear hb2)
                  (try clear hk)
                  (try clear hi)
                  refine hK.out _ _ ⟨((HB.out.cell (World.block_lt_of_cell? w _ hw129_0)).trans hw129_0), ((HB.out.cell (World.block_lt_of_cell? w _ hw129_1)).trans hw129_1), ((HB.out.cell (World.block_lt_of_cell? w _ hw129_2)).trans hw129_2), ((HB.out.cell (World.block_lt_of_cell? w _ hw129_3)).trans hw129_3), ((HB.out.cell (World.block_lt_of_cell? w _ hw130_0)).trans hw130_0), ((HB.out.cell (World.block_lt_of_cell? w _ hw130_1)).trans hw130_1), ((HB.out.cell (World.block_lt_of_cell? w _ hw130_2)).trans hw130_2), ((HB.out.cell (World.block_lt_of_cell? w _ hw130_3)).trans hw130_3)⟩ (fun hHeld => ?_)
                  clear hK K
                  refine norm_ (a' := ?_) ?_ ?_
                  rotate_left
                  · show Act.put _ (some 24) _ = _
                    simp only [Act.put, List.setIfInBounds_toArray, List.set_cons_zero, List.set_cons_succ, i64_w, i32_w]
                    rfl
                  refine pure_ (i := 9) (N := some 25) (v := ?_) (a' := ?_) #[true, true, true, true, true, true, true, true, true, true] rfl rfl (any_of HT_.out (by kernel_rfl)) (fun _ _ _ h => h) (Or.inl ⟨by rfl, ?_⟩) ?_ ?_
                  rotate_left
                  · intro w'
                    go_simp
                    with_reducible rfl
                  rotate_left
                  · simp only [Act.put, List.setIfInBounds_toArray, List.set_cons_zero, List.set_cons_succ, i64_w, i32_w]
                    rfl
                  refine done_ (done_of HT_.out (by kernel_rfl)) ?_
                  try go_wp2
                  go_ret
                  exact ⟨by first | rfl | (simp [errW_none, errW_some] <;> rfl) | (simp [*, errW_none, errW_some] <;> rfl), by repeat (first | (with_reducible first | exact HB.out | apply below_alloc | apply pw_below_drewN | apply below_drew1) | exact HB.out)⟩
              · rw [if_neg c7] at H
                exact absurd H (by simp)
            · rw [if_neg c6] at H
              exact absurd H (by simp)
          · rw [if_neg c5] at H
            exact absurd H (by simp)
        · rw [if_neg c4] at H
          have c4b0 : decide (x13_1 < (l0.length : Int)) = false := decide_eq_false c4
          clear c4
          obtain rfl := Option.some.inj H
          go_wp2
          go_ret
          exact ⟨by first | rfl | (simp [errW_none, errW_some] <;> rfl) | (simp [*, errW_none, errW_some] <;> rfl), by repeat (first | (with_reducible first | exact HB.out | apply below_alloc | apply pw_below_drewN | apply below_drew1) | exact HB.out)⟩
  · rw [if_neg c3] at H
    have c3b0 : ((l0.length : Int) == (l1.length : Int)) = false := beq_eq_false_iff_ne.mpr c3
    have c3b1 : ((l0.length : Int) != (l1.length : Int)) = true := bne_iff_ne.mpr c3
    have c3b2 : (l0.length == l1.length) = false := by first | simpa using c3 | (simp at c3 ⊢; omega)
    obtain rfl := Option.some.inj H
    go_enter Try.func21, Try.ntmps21
    go_wp2
    go_ret
    exact ⟨by first | rfl | (simp [errW_none, errW_some] <;> rfl) | (simp [*, errW_none, errW_some] <;> rfl), by repeat (first | (with_reducible first | exact HB.out | apply below_alloc | apply pw_below_drewN | apply below_drew1) | exact HB.out)⟩
def switchyardref13_SameMail.f (k : Nat) (a0_0 : Int) (a0_1 : ByteArray) (l0_2 : List (S49)) (l0_3 : List (S49)) (a1_0 : Int) (a1_1 : ByteArray) (l1_2 : List (S49)) (l1_3 : List (S49)) : Option (Bool) := if a0_0 = a1_0 then (if a0_1.toList = a1_1.toList then ((switchyardref06_SameAll.f k l0_2 l1_2).bind fun t134 => (if t134 = true then ((switchyardref06_SameAll.f k l0_3 l1_3).bind fun t135 => (some t135)) else (some false))) else (some false)) else (some false)
set_option maxHeartbeats 600000 in
set_option maxRecDepth 100000 in
theorem switchyardref13_SameMail.calls (k : Nat) (a0_0 : Int) (a0_1 : ByteArray) (A0_2 : Option Addr) (c0_2 : Nat) (l0_2 : List (S49)) (A0_3 : Option Addr) (c0_3 : Nat) (l0_3 : List (S49)) (a1_0 : Int) (a1_1 : ByteArray) (A1_2 : Option Addr) (c1_2 : Nat) (l1_2 : List (S49)) (A1_3 : Option Addr) (c1_3 : Nat) (l1_3 : List (S49)) (r : Bool) (w : World) (hr0_2 : Kd.C k49 w A0_2 l0_2.length l0_2) (hc0_2 : l0_2.length ≤ c0_2) (hr0_3 : Kd.C k49 w A0_3 l0_3.length l0_3) (hc0_3 : l0_3.length ≤ c0_3) (hr1_2 : Kd.C k49 w A1_2 l1_2.length l1_2) (hc1_2 : l1_2.length ≤ c1_2) (hr1_3 : Kd.C k49 w A1_3 l1_3.length l1_3) (hc1_3 : l1_3.length ≤ c1_3) (h : switchyardref13_SameMail.f k a0_0 a0_1 l0_2 l0_3 a1_0 a1_1 l1_2 l1_3 = some r) :
    Calls Try.prog 13 #[.agg #[.int .i64 a0_0, .string a0_1, .slice A0_2 l0_2.length c0_2, .slice A0_3 l0_3.length c0_3], .agg #[.int .i64 a1_0, .string a1_1, .slice A1_2 l1_2.length c1_2, .slice A1_3 l1_3.length c1_3]] w fun e w' => e = .returned (.bool r) ∧ Below w.heap.size w w' := by
  have hu30 := Try.underlying30
  have HR0_2 := Aside0.mk hr0_2
  have HC0_2 := Aside0.mk hc0_2
  clear hr0_2 hc0_2
  have HR0_3 := Aside0.mk hr0_3
  have HC0_3 := Aside0.mk hc0_3
  clear hr0_3 hc0_3
  have HR1_2 := Aside0.mk hr1_2
  have HC1_2 := Aside0.mk hc1_2
  clear hr1_2 hc1_2
  have HR1_3 := Aside0.mk hr1_3
  have HC1_3 := Aside0.mk hc1_3
  clear hr1_3 hc1_3
  have HB := Aside0.mk (Below.refl w.heap.size w)
  have H : (if a0_0 = a1_0 then (if a0_1.toList = a1_1.toList then ((switchyardref06_SameAll.f k l0_2 l1_2).bind fun t134 => (if t134 = true then ((switchyardref06_SameAll.f k l0_3 l1_3).bind fun t135 => (some t135)) else (some false))) else (some false)) else (some false)) = some r := h
  clear h
  by_cases c3 : a0_0 = a1_0
  · rw [if_pos c3] at H
    have c3b0 : (a0_0 == a1_0) = true := beq_iff_eq.mpr c3
    have c3b1 : (a0_0 != a1_0) = false := bne_eq_false_iff_eq.mpr c3
    clear c3
    by_cases c4 : a0_1.toList = a1_1.toList
    · rw [if_pos c4] at H
      have c4b0 : (a0_1.toList == a1_1.toList) = true := beq_iff_eq.mpr c4
      have c4b1 : (a0_1.toList != a1_1.toList) = false := bne_eq_false_iff_eq.mpr c4
      clear c4
      replace H := Option.bind_eq_some_iff.mp H
      obtain ⟨t134, A50, H⟩ := H
      replace H : (if t134 = true then ((switchyardref06_SameAll.f k l0_3 l1_3).bind fun t135 => (some t135)) else (some false)) = some r := H
      have A5 := Aside0.mk A50
      clear A50
      by_cases c6 : t134 = true
      · subst c6
        have H1 : ((switchyardref06_SameAll.f k l0_3 l1_3).bind fun t135 => (some t135)) = some r := by rw [if_pos rfl] at H; exact H
        clear H
        have H := H1
        clear H1
        replace H := Option.bind_eq_some_iff.mp H
        obtain ⟨t135, A70, H⟩ := H
        replace H : (some t135) = some r := H
        have A7 := Aside0.mk A70
        clear A70
        obtain rfl := Option.some.inj H
        go_enter Try.func13, Try.ntmps13
        go_wp2_with (first | ((with_reducible refine gate_dst (N := 2) rfl ?_); refine box_event ?hg (N := 2) ?hd (cs := #[.int .i64 a0_0, .string a0_1, .slice A0_2 l0_2.length c0_2, .slice A0_3 l0_3.length c0_3]) (t := 30) ?hr ?_; (case hd => rfl); (case hg => rfl); (case hr => first | (go_simp; done) | (go_simp; rfl)); intro gb132 hg w8 hbox hb; have n0_ := Aside0.mk (below_step (by repeat (first | (with_reducible first | exact HB.out | apply below_alloc | apply pw_below_drewN | apply below_drew1) | exact HB.out)) hb); have n1_ := Aside0.mk (hbox); have n2_ := Aside0.mk ((by rw [hg]; exact (below_size (by repeat (first | (with_reducible first | exact HB.out | apply below_alloc | apply pw_below_drewN | apply below_drew1) | exact HB.out))) : w.heap.size ≤ gb132)); have n3_ := Aside0.mk ((by rw [hg]; exact (below_size (by repeat (first | (with_reducible first | exact HB.out | apply below_alloc | apply pw_below_drewN | apply below_drew1) | exact HB.out))) : w.heap.size ≤ gb132)); clear HB; have HB := n0_; have BK132 := n1_; have GW132 := n2_; have GE132 := n3_; clear n0_ n1_ n2_ n3_; clear hb hbox hg) | ((with_reducible refine gate_dst (N := 3) rfl ?_); refine box_event ?hg (N := 3) ?hd (cs := #[.int .i64 a1_0, .string a1_1, .slice A1_2 l1_2.length c1_2, .slice A1_3 l1_3.length c1_3]) (t := 30) ?hr ?_; (case hd => rfl); (case hg => rfl); (case hr => first | (go_simp; done) | (go_simp; rfl)); intro gb133 hg w9 hbox hb; have n0_ := Aside0.mk (blk_below (g := gb132) (o := .cells #[.int .i64 a0_0, .string a0_1, .slice A0_2 l0_2.length c0_2, .slice A0_3 l0_3.length c0_3] 30 (0, 0)) (by (with_reducible repeat (first | refine blk_drewN ?_ _ | refine blk_drew ?_ | refine blk_alloc ?_ _)); exact BK132.out) hb); have n1_ := Aside0.mk (below_step (by repeat (first | (with_reducible first | exact HB.out | apply below_alloc | apply pw_below_drewN | apply below_drew1 | refine below_set ?_ GE132.out) | exact HB.out)) hb); have n2_ := Aside0.mk (hbox); have n3_ := Aside0.mk ((by rw [hg]; exact (below_size (by repeat (first | (with_reducible first | exact HB.out | apply below_alloc | apply pw_below_drewN | apply below_drew1 | refine below_set ?_ GE132.out) | exact HB.out))) : w.heap.size ≤ gb133)); have n4_ := Aside0.mk ((by rw [hg]; exact (below_size (by repeat (first | (with_reducible first | exact HB.out | apply below_alloc | apply pw_below_drewN | apply below_drew1 | refine below_set ?_ GE132.out) | exact HB.out))) : w.heap.size ≤ gb133)); have n5_ := Aside0.mk ((by rw [hg]; exact Nat.ne_of_lt (blk_lt (g := gb132) (o := .cells #[.int .i64 a0_0, .string a0_1, .slice A0_2 l0_2.length c0_2, .slice A0_3 l0_3.length c0_3] 30 (0, 0)) (by (with_reducible repeat (first | refine blk_drewN ?_ _ | refine blk_drew ?_ | refine blk_alloc ?_ _)); exact BK132.out)) : gb132 ≠ gb133)); have n6_ := Aside0.mk ((by rw [hg]; exact Nat.ne_of_gt (blk_lt (g := gb132) (o := .cells #[.int .i64 a0_0, .string a0_1, .slice A0_2 l0_2.length c0_2, .slice A0_3 l0_3.length c0_3] 30 (0, 0)) (by (with_reducible repeat (first | refine blk_drewN ?_ _ | refine blk_drew ?_ | refine blk_alloc ?_ _)); exact BK132.out)) : gb133 ≠ gb132)); clear BK132; clear HB; have BK132 := n0_; have HB := n1_; have BK133 := n2_; have GW133 := n3_; have GE133 := n4_; have NB132_133 := n5_; have NB133_132 := n6_; clear n0_ n1_ n2_ n3_ n4_ n5_ n6_; clear hb hbox hg; have hnb10 := NB132_133.out; have hnc10 := NB133_132.out; have hcz11_0 : w9.cell? ⟨gb132, 0, none⟩ = some (.int .i64 a0_0) := (blk_cell BK132.out 0).trans rfl; have hcz11_1 : w9.cell? ⟨gb132, 1, none⟩ = some (.string a0_1) := (blk_cell BK132.out 1).trans rfl; have hcz11_2 : w9.cell? ⟨gb132, 2, none⟩ = some (.slice A0_2 l0_2.length c0_2) := (blk_cell BK132.out 2).trans rfl; have hcz11_3 : w9.cell? ⟨gb132, 3, none⟩ = some (.slice A0_3 l0_3.length c0_3) := (blk_cell BK132.out 3).trans rfl; have hfz11_0 := blk_frozen BK132.out 0; have hfz11_1 := blk_frozen BK132.out 1; have hfz11_2 := blk_frozen BK132.out 2; have hfz11_3 := blk_frozen BK132.out 3; have hcz12_0 : w9.cell? ⟨gb133, 0, none⟩ = some (.int .i64 a1_0) := (blk_cell BK133.out 0).trans rfl; have hcz12_1 : w9.cell? ⟨gb133, 1, none⟩ = some (.string a1_1) := (blk_cell BK133.out 1).trans rfl; have hcz12_2 : w9.cell? ⟨gb133, 2, none⟩ = some (.slice A1_2 l1_2.length c1_2) := (blk_cell BK133.out 2).trans rfl; have hcz12_3 : w9.cell? ⟨gb133, 3, none⟩ = some (.slice A1_3 l1_3.length c1_3) := (blk_cell BK133.out 3).trans rfl; have hfz12_0 := blk_frozen BK133.out 0; have hfz12_1 := blk_frozen BK133.out 1; have hfz12_2 := blk_frozen BK133.out 2; have hfz12_3 := blk_frozen BK133.out 3) | (go_at_call 21; refine calls_of_args (args' := #[.slice A0_2 l0_2.length c0_2, .slice A1_2 l1_2.length c1_2]) (by first | rfl) ?_; (with_reducible refine (switchyardref06_SameAll.calls k _ _ l0_2 _ _ l1_2 true _ ?side1 ?side2 ?side3 ?side4 A5.out).mono ?_); (case side1 => repeat (first | exact (Kd.C_below HR0_2.out HB.out) | (with_reducible refine Kd.C_alloc ?_ _) | (with_reducible refine Kd.C_drewN ?_ _) | (with_reducible refine Kd.C_drew ?_))); (case side2 => exact HC0_2.out); (case side3 => repeat (first | exact (Kd.C_below HR1_2.out HB.out) | (with_reducible refine Kd.C_alloc ?_ _) | (with_reducible refine Kd.C_drewN ?_ _) | (with_reducible refine Kd.C_drew ?_))); (case side4 => exact HC1_2.out); rintro e w13 ⟨rfl, hb⟩; have n0_ := Aside0.mk (blk_below (g := gb132) (o := .cells #[.int .i64 a0_0, .string a0_1, .slice A0_2 l0_2.length c0_2, .slice A0_3 l0_3.length c0_3] 30 (0, 0)) (by (with_reducible repeat (first | refine blk_drewN ?_ _ | refine blk_drew ?_ | refine blk_alloc ?_ _)); exact BK132.out) hb); have n1_ := Aside0.mk (blk_below (g := gb133) (o := .cells #[.int .i64 a1_0, .string a1_1, .slice A1_2 l1_2.length c1_2, .slice A1_3 l1_3.length c1_3] 30 (0, 0)) (by (with_reducible repeat (first | refine blk_drewN ?_ _ | refine blk_drew ?_ | refine blk_alloc ?_ _)); exact BK133.out) hb); have n2_ := Aside0.mk (below_step (by repeat (first | (with_reducible first | exact HB.out | apply below_alloc | apply pw_below_drewN | apply below_drew1 | refine below_set ?_ GE132.out | refine below_set ?_ GE133.out) | exact HB.out)) hb); clear BK132; clear BK133; clear HB; have BK132 := n0_; have BK133 := n1_; have HB := n2_; clear n0_ n1_ n2_; (try clear hb); (try clear hb2); (try clear hk); (try clear hi); have hcz14_0 : w13.cell? ⟨gb132, 0, none⟩ = some (.int .i64 a0_0) := (blk_cell BK132.out 0).trans rfl; have hcz14_1 : w13.cell? ⟨gb132, 1, none⟩ = some (.string a0_1) := (blk_cell BK132.out 1).trans rfl; have hcz14_2 : w13.cell? ⟨gb132, 2, none⟩ = some (.slice A0_2 l0_2.length c0_2) := (blk_cell BK132.out 2).trans rfl; have hcz14_3 : w13.cell? ⟨gb132, 3, none⟩ = some (.slice A0_3 l0_3.length c0_3) := (blk_cell BK132.out 3).trans rfl; have hfz14_0 := blk_frozen BK132.out 0; have hfz14_1 := blk_frozen BK132.out 1; have hfz14_2 := blk_frozen BK132.out 2; have hfz14_3 := blk_frozen BK132.out 3; have hcz15_0 : w13.cell? ⟨gb133, 0, none⟩ = some (.int .i64 a1_0) := (blk_cell BK133.out 0).trans rfl; have hcz15_1 : w13.cell? ⟨gb133, 1, none⟩ = some (.string a1_1) := (blk_cell BK133.out 1).trans rfl; have hcz15_2 : w13.cell? ⟨gb133, 2, none⟩ = some (.slice A1_2 l1_2.length c1_2) := (blk_cell BK133.out 2).trans rfl; have hcz15_3 : w13.cell? ⟨gb133, 3, none⟩ = some (.slice A1_3 l1_3.length c1_3) := (blk_cell BK133.out 3).trans rfl; have hfz15_0 := blk_frozen BK133.out 0; have hfz15_1 := blk_frozen BK133.out 1; have hfz15_2 := blk_frozen BK133.out 2; have hfz15_3 := blk_frozen BK133.out 3) | (go_at_call 21; refine calls_of_args (args' := #[.slice A0_3 l0_3.length c0_3, .slice A1_3 l1_3.length c1_3]) (by first | rfl) ?_; (with_reducible refine (switchyardref06_SameAll.calls k _ _ l0_3 _ _ l1_3 t135 _ ?side1 ?side2 ?side3 ?side4 A7.out).mono ?_); (case side1 => repeat (first | exact (Kd.C_below HR0_3.out HB.out) | (with_reducible refine Kd.C_alloc ?_ _) | (with_reducible refine Kd.C_drewN ?_ _) | (with_reducible refine Kd.C_drew ?_))); (case side2 => exact HC0_3.out); (case side3 => repeat (first | exact (Kd.C_below HR1_3.out HB.out) | (with_reducible refine Kd.C_alloc ?_ _) | (with_reducible refine Kd.C_drewN ?_ _) | (with_reducible refine Kd.C_drew ?_))); (case side4 => exact HC1_3.out); rintro e w16 ⟨rfl, hb⟩; have n0_ := Aside0.mk (blk_below (g := gb132) (o := .cells #[.int .i64 a0_0, .string a0_1, .slice A0_2 l0_2.length c0_2, .slice A0_3 l0_3.length c0_3] 30 (0, 0)) (by (with_reducible repeat (first | refine blk_drewN ?_ _ | refine blk_drew ?_ | refine blk_alloc ?_ _)); exact BK132.out) hb); have n1_ := Aside0.mk (blk_below (g := gb133) (o := .cells #[.int .i64 a1_0, .string a1_1, .slice A1_2 l1_2.length c1_2, .slice A1_3 l1_3.length c1_3] 30 (0, 0)) (by (with_reducible repeat (first | refine blk_drewN ?_ _ | refine blk_drew ?_ | refine blk_alloc ?_ _)); exact BK133.out) hb); have n2_ := Aside0.mk (below_step (by repeat (first | (with_reducible first | exact HB.out | apply below_alloc | apply pw_below_drewN | apply below_drew1 | refine below_set ?_ GE132.out | refine below_set ?_ GE133.out) | exact HB.out)) hb); clear BK132; clear BK133; clear HB; have BK132 := n0_; have BK133 := n1_; have HB := n2_; clear n0_ n1_ n2_; (try clear hb); (try clear hb2); (try clear hk); (try clear hi)))
        go_ret
        exact ⟨by first | rfl | (simp [errW_none, errW_some] <;> rfl) | (simp [*, errW_none, errW_some] <;> rfl), by repeat (first | (with_reducible first | exact HB.out | apply below_alloc | apply pw_below_drewN | apply below_drew1 | refine below_set ?_ GE132.out | refine below_set ?_ GE133.out) | exact HB.out)⟩
      · replace c6 := Bool.eq_false_iff.mpr c6
        subst c6
        have H1 : (some false) = some r := by rw [if_neg (show ¬ (false = true) by decide)] at H; exact H
        clear H
        have H := H1
        clear H1
        obtain rfl := Option.some.inj H
        go_enter Try.func13, Try.ntmps13
        go_wp2_with (first | ((with_reducible refine gate_dst (N := 2) rfl ?_); refine box_event ?hg (N := 2) ?hd (cs := #[.int .i64 a0_0, .string a0_1, .slice A0_2 l0_2.length c0_2, .slice A0_3 l0_3.length c0_3]) (t := 30) ?hr ?_; (case hd => rfl); (case hg => rfl); (case hr => first | (go_simp; done) | (go_simp; rfl)); intro gb132 hg w17 hbox hb; have n0_ := Aside0.mk (below_step (by repeat (first | (with_reducible first | exact HB.out | apply below_alloc | apply pw_below_drewN | apply below_drew1) | exact HB.out)) hb); have n1_ := Aside0.mk (hbox); have n2_ := Aside0.mk ((by rw [hg]; exact (below_size (by repeat (first | (with_reducible first | exact HB.out | apply below_alloc | apply pw_below_drewN | apply below_drew1) | exact HB.out))) : w.heap.size ≤ gb132)); have n3_ := Aside0.mk ((by rw [hg]; exact (below_size (by repeat (first | (with_reducible first | exact HB.out | apply below_alloc | apply pw_below_drewN | apply below_drew1) | exact HB.out))) : w.heap.size ≤ gb132)); clear HB; have HB := n0_; have BK132 := n1_; have GW132 := n2_; have GE132 := n3_; clear n0_ n1_ n2_ n3_; clear hb hbox hg) | ((with_reducible refine gate_dst (N := 3) rfl ?_); refine box_event ?hg (N := 3) ?hd (cs := #[.int .i64 a1_0, .string a1_1, .slice A1_2 l1_2.length c1_2, .slice A1_3 l1_3.length c1_3]) (t := 30) ?hr ?_; (case hd => rfl); (case hg => rfl); (case hr => first | (go_simp; done) | (go_simp; rfl)); intro gb133 hg w18 hbox hb; have n0_ := Aside0.mk (blk_below (g := gb132) (o := .cells #[.int .i64 a0_0, .string a0_1, .slice A0_2 l0_2.length c0_2, .slice A0_3 l0_3.length c0_3] 30 (0, 0)) (by (with_reducible repeat (first | refine blk_drewN ?_ _ | refine blk_drew ?_ | refine blk_alloc ?_ _)); exact BK132.out) hb); have n1_ := Aside0.mk (below_step (by repeat (first | (with_reducible first | exact HB.out | apply below_alloc | apply pw_below_drewN | apply below_drew1 | refine below_set ?_ GE132.out) | exact HB.out)) hb); have n2_ := Aside0.mk (hbox); have n3_ := Aside0.mk ((by rw [hg]; exact (below_size (by repeat (first | (with_reducible first | exact HB.out | apply below_alloc | apply pw_below_drewN | apply below_drew1 | refine below_set ?_ GE132.out) | exact HB.out))) : w.heap.size ≤ gb133)); have n4_ := Aside0.mk ((by rw [hg]; exact (below_size (by repeat (first | (with_reducible first | exact HB.out | apply below_alloc | apply pw_below_drewN | apply below_drew1 | refine below_set ?_ GE132.out) | exact HB.out))) : w.heap.size ≤ gb133)); have n5_ := Aside0.mk ((by rw [hg]; exact Nat.ne_of_lt (blk_lt (g := gb132) (o := .cells #[.int .i64 a0_0, .string a0_1, .slice A0_2 l0_2.length c0_2, .slice A0_3 l0_3.length c0_3] 30 (0, 0)) (by (with_reducible repeat (first | refine blk_drewN ?_ _ | refine blk_drew ?_ | refine blk_alloc ?_ _)); exact BK132.out)) : gb132 ≠ gb133)); have n6_ := Aside0.mk ((by rw [hg]; exact Nat.ne_of_gt (blk_lt (g := gb132) (o := .cells #[.int .i64 a0_0, .string a0_1, .slice A0_2 l0_2.length c0_2, .slice A0_3 l0_3.length c0_3] 30 (0, 0)) (by (with_reducible repeat (first | refine blk_drewN ?_ _ | refine blk_drew ?_ | refine blk_alloc ?_ _)); exact BK132.out)) : gb133 ≠ gb132)); clear BK132; clear HB; have BK132 := n0_; have HB := n1_; have BK133 := n2_; have GW133 := n3_; have GE133 := n4_; have NB132_133 := n5_; have NB133_132 := n6_; clear n0_ n1_ n2_ n3_ n4_ n5_ n6_; clear hb hbox hg; have hnb19 := NB132_133.out; have hnc19 := NB133_132.out; have hcz20_0 : w18.cell? ⟨gb132, 0, none⟩ = some (.int .i64 a0_0) := (blk_cell BK132.out 0).trans rfl; have hcz20_1 : w18.cell? ⟨gb132, 1, none⟩ = some (.string a0_1) := (blk_cell BK132.out 1).trans rfl; have hcz20_2 : w18.cell? ⟨gb132, 2, none⟩ = some (.slice A0_2 l0_2.length c0_2) := (blk_cell BK132.out 2).trans rfl; have hcz20_3 : w18.cell? ⟨gb132, 3, none⟩ = some (.slice A0_3 l0_3.length c0_3) := (blk_cell BK132.out 3).trans rfl; have hfz20_0 := blk_frozen BK132.out 0; have hfz20_1 := blk_frozen BK132.out 1; have hfz20_2 := blk_frozen BK132.out 2; have hfz20_3 := blk_frozen BK132.out 3; have hcz21_0 : w18.cell? ⟨gb133, 0, none⟩ = some (.int .i64 a1_0) := (blk_cell BK133.out 0).trans rfl; have hcz21_1 : w18.cell? ⟨gb133, 1, none⟩ = some (.string a1_1) := (blk_cell BK133.out 1).trans rfl; have hcz21_2 : w18.cell? ⟨gb133, 2, none⟩ = some (.slice A1_2 l1_2.length c1_2) := (blk_cell BK133.out 2).trans rfl; have hcz21_3 : w18.cell? ⟨gb133, 3, none⟩ = some (.slice A1_3 l1_3.length c1_3) := (blk_cell BK133.out 3).trans rfl; have hfz21_0 := blk_frozen BK133.out 0; have hfz21_1 := blk_frozen BK133.out 1; have hfz21_2 := blk_frozen BK133.out 2; have hfz21_3 := blk_frozen BK133.out 3) | (go_at_call 21; refine calls_of_args (args' := #[.slice A0_2 l0_2.length c0_2, .slice A1_2 l1_2.length c1_2]) (by first | rfl) ?_; (with_reducible refine (switchyardref06_SameAll.calls k _ _ l0_2 _ _ l1_2 false _ ?side1 ?side2 ?side3 ?side4 A5.out).mono ?_); (case side1 => repeat (first | exact (Kd.C_below HR0_2.out HB.out) | (with_reducible refine Kd.C_alloc ?_ _) | (with_reducible refine Kd.C_drewN ?_ _) | (with_reducible refine Kd.C_drew ?_))); (case side2 => exact HC0_2.out); (case side3 => repeat (first | exact (Kd.C_below HR1_2.out HB.out) | (with_reducible refine Kd.C_alloc ?_ _) | (with_reducible refine Kd.C_drewN ?_ _) | (with_reducible refine Kd.C_drew ?_))); (case side4 => exact HC1_2.out); rintro e w22 ⟨rfl, hb⟩; have n0_ := Aside0.mk (blk_below (g := gb132) (o := .cells #[.int .i64 a0_0, .string a0_1, .slice A0_2 l0_2.length c0_2, .slice A0_3 l0_3.length c0_3] 30 (0, 0)) (by (with_reducible repeat (first | refine blk_drewN ?_ _ | refine blk_drew ?_ | refine blk_alloc ?_ _)); exact BK132.out) hb); have n1_ := Aside0.mk (blk_below (g := gb133) (o := .cells #[.int .i64 a1_0, .string a1_1, .slice A1_2 l1_2.length c1_2, .slice A1_3 l1_3.length c1_3] 30 (0, 0)) (by (with_reducible repeat (first | refine blk_drewN ?_ _ | refine blk_drew ?_ | refine blk_alloc ?_ _)); exact BK133.out) hb); have n2_ := Aside0.mk (below_step (by repeat (first | (with_reducible first | exact HB.out | apply below_alloc | apply pw_below_drewN | apply below_drew1 | refine below_set ?_ GE132.out | refine below_set ?_ GE133.out) | exact HB.out)) hb); clear BK132; clear BK133; clear HB; have BK132 := n0_; have BK133 := n1_; have HB := n2_; clear n0_ n1_ n2_; (try clear hb); (try clear hb2); (try clear hk); (try clear hi)))
        go_ret
        exact ⟨by first | rfl | (simp [errW_none, errW_some] <;> rfl) | (simp [*, errW_none, errW_some] <;> rfl), by repeat (first | (with_reducible first | exact HB.out | apply below_alloc | apply pw_below_drewN | apply below_drew1 | refine below_set ?_ GE132.out | refine below_set ?_ GE133.out) | exact HB.out)⟩
    · rw [if_neg c4] at H
      have c4b0 : (a0_1.toList == a1_1.toList) = false := beq_eq_false_iff_ne.mpr c4
      have c4b1 : (a0_1.toList != a1_1.toList) = true := bne_iff_ne.mpr c4
      obtain rfl := Option.some.inj H
      go_enter Try.func13, Try.ntmps13
      go_wp2_with (first | ((with_reducible refine gate_dst (N := 2) rfl ?_); refine box_event ?hg (N := 2) ?hd (cs := #[.int .i64 a0_0, .string a0_1, .slice A0_2 l0_2.length c0_2, .slice A0_3 l0_3.length c0_3]) (t := 30) ?hr ?_; (case hd => rfl); (case hg => rfl); (case hr => first | (go_simp; done) | (go_simp; rfl)); intro gb132 hg w23 hbox hb; have n0_ := Aside0.mk (below_step (by repeat (first | (with_reducible first | exact HB.out | apply below_alloc | apply pw_below_drewN | apply below_drew1) | exact HB.out)) hb); have n1_ := Aside0.mk (hbox); have n2_ := Aside0.mk ((by rw [hg]; exact (below_size (by repeat (first | (with_reducible first | exact HB.out | apply below_alloc | apply pw_below_drewN | apply below_drew1) | exact HB.out))) : w.heap.size ≤ gb132)); have n3_ := Aside0.mk ((by rw [hg]; exact (below_size (by repeat (first | (with_reducible first | exact HB.out | apply below_alloc | apply pw_below_drewN | apply below_drew1) | exact HB.out))) : w.heap.size ≤ gb132)); clear HB; have HB := n0_; have BK132 := n1_; have GW132 := n2_; have GE132 := n3_; clear n0_ n1_ n2_ n3_; clear hb hbox hg) | ((with_reducible refine gate_dst (N := 3) rfl ?_); refine box_event ?hg (N := 3) ?hd (cs := #[.int .i64 a1_0, .string a1_1, .slice A1_2 l1_2.length c1_2, .slice A1_3 l1_3.length c1_3]) (t := 30) ?hr ?_; (case hd => rfl); (case hg => rfl); (case hr => first | (go_simp; done) | (go_simp; rfl)); intro gb133 hg w24 hbox hb; have n0_ := Aside0.mk (blk_below (g := gb132) (o := .cells #[.int .i64 a0_0, .string a0_1, .slice A0_2 l0_2.length c0_2, .slice A0_3 l0_3.length c0_3] 30 (0, 0)) (by (with_reducible repeat (first | refine blk_drewN ?_ _ | refine blk_drew ?_ | refine blk_alloc ?_ _)); exact BK132.out) hb); have n1_ := Aside0.mk (below_step (by repeat (first | (with_reducible first | exact HB.out | apply below_alloc | apply pw_below_drewN | apply below_drew1 | refine below_set ?_ GE132.out) | exact HB.out)) hb); have n2_ := Aside0.mk (hbox); have n3_ := Aside0.mk ((by rw [hg]; exact (below_size (by repeat (first | (with_reducible first | exact HB.out | apply below_alloc | apply pw_below_drewN | apply below_drew1 | refine below_set ?_ GE132.out) | exact HB.out))) : w.heap.size ≤ gb133)); have n4_ := Aside0.mk ((by rw [hg]; exact (below_size (by repeat (first | (with_reducible first | exact HB.out | apply below_alloc | apply pw_below_drewN | apply below_drew1 | refine below_set ?_ GE132.out) | exact HB.out))) : w.heap.size ≤ gb133)); have n5_ := Aside0.mk ((by rw [hg]; exact Nat.ne_of_lt (blk_lt (g := gb132) (o := .cells #[.int .i64 a0_0, .string a0_1, .slice A0_2 l0_2.length c0_2, .slice A0_3 l0_3.length c0_3] 30 (0, 0)) (by (with_reducible repeat (first | refine blk_drewN ?_ _ | refine blk_drew ?_ | refine blk_alloc ?_ _)); exact BK132.out)) : gb132 ≠ gb133)); have n6_ := Aside0.mk ((by rw [hg]; exact Nat.ne_of_gt (blk_lt (g := gb132) (o := .cells #[.int .i64 a0_0, .string a0_1, .slice A0_2 l0_2.length c0_2, .slice A0_3 l0_3.length c0_3] 30 (0, 0)) (by (with_reducible repeat (first | refine blk_drewN ?_ _ | refine blk_drew ?_ | refine blk_alloc ?_ _)); exact BK132.out)) : gb133 ≠ gb132)); clear BK132; clear HB; have BK132 := n0_; have HB := n1_; have BK133 := n2_; have GW133 := n3_; have GE133 := n4_; have NB132_133 := n5_; have NB133_132 := n6_; clear n0_ n1_ n2_ n3_ n4_ n5_ n6_; clear hb hbox hg; have hnb25 := NB132_133.out; have hnc25 := NB133_132.out; have hcz26_0 : w24.cell? ⟨gb132, 0, none⟩ = some (.int .i64 a0_0) := (blk_cell BK132.out 0).trans rfl; have hcz26_1 : w24.cell? ⟨gb132, 1, none⟩ = some (.string a0_1) := (blk_cell BK132.out 1).trans rfl; have hcz26_2 : w24.cell? ⟨gb132, 2, none⟩ = some (.slice A0_2 l0_2.length c0_2) := (blk_cell BK132.out 2).trans rfl; have hcz26_3 : w24.cell? ⟨gb132, 3, none⟩ = some (.slice A0_3 l0_3.length c0_3) := (blk_cell BK132.out 3).trans rfl; have hfz26_0 := blk_frozen BK132.out 0; have hfz26_1 := blk_frozen BK132.out 1; have hfz26_2 := blk_frozen BK132.out 2; have hfz26_3 := blk_frozen BK132.out 3; have hcz27_0 : w24.cell? ⟨gb133, 0, none⟩ = some (.int .i64 a1_0) := (blk_cell BK133.out 0).trans rfl; have hcz27_1 : w24.cell? ⟨gb133, 1, none⟩ = some (.string a1_1) := (blk_cell BK133.out 1).trans rfl; have hcz27_2 : w24.cell? ⟨gb133, 2, none⟩ = some (.slice A1_2 l1_2.length c1_2) := (blk_cell BK133.out 2).trans rfl; have hcz27_3 : w24.cell? ⟨gb133, 3, none⟩ = some (.slice A1_3 l1_3.length c1_3) := (blk_cell BK133.out 3).trans rfl; have hfz27_0 := blk_frozen BK133.out 0; have hfz27_1 := blk_frozen BK133.out 1; have hfz27_2 := blk_frozen BK133.out 2; have hfz27_3 := blk_frozen BK133.out 3))
      go_ret
      exact ⟨by first | rfl | (simp [errW_none, errW_some] <;> rfl) | (simp [*, errW_none, errW_some] <;> rfl), by repeat (first | (with_reducible first | exact HB.out | apply below_alloc | apply pw_below_drewN | apply below_drew1 | refine below_set ?_ GE132.out | refine below_set ?_ GE133.out) | exact HB.out)⟩
  · rw [if_neg c3] at H
    have c3b0 : (a0_0 == a1_0) = false := beq_eq_false_iff_ne.mpr c3
    have c3b1 : (a0_0 != a1_0) = true := bne_iff_ne.mpr c3
    obtain rfl := Option.some.inj H
    go_enter Try.func13, Try.ntmps13
    go_wp2_with (first | ((with_reducible refine gate_dst (N := 2) rfl ?_); refine box_event ?hg (N := 2) ?hd (cs := #[.int .i64 a0_0, .string a0_1, .slice A0_2 l0_2.length c0_2, .slice A0_3 l0_3.length c0_3]) (t := 30) ?hr ?_; (case hd => rfl); (case hg => rfl); (case hr => first | (go_simp; done) | (go_simp; rfl)); intro gb132 hg w28 hbox hb; have n0_ := Aside0.mk (below_step (by repeat (first | (with_reducible first | exact HB.out | apply below_alloc | apply pw_below_drewN | apply below_drew1) | exact HB.out)) hb); have n1_ := Aside0.mk (hbox); have n2_ := Aside0.mk ((by rw [hg]; exact (below_size (by repeat (first | (with_reducible first | exact HB.out | apply below_alloc | apply pw_below_drewN | apply below_drew1) | exact HB.out))) : w.heap.size ≤ gb132)); have n3_ := Aside0.mk ((by rw [hg]; exact (below_size (by repeat (first | (with_reducible first | exact HB.out | apply below_alloc | apply pw_below_drewN | apply below_drew1) | exact HB.out))) : w.heap.size ≤ gb132)); clear HB; have HB := n0_; have BK132 := n1_; have GW132 := n2_; have GE132 := n3_; clear n0_ n1_ n2_ n3_; clear hb hbox hg) | ((with_reducible refine gate_dst (N := 3) rfl ?_); refine box_event ?hg (N := 3) ?hd (cs := #[.int .i64 a1_0, .string a1_1, .slice A1_2 l1_2.length c1_2, .slice A1_3 l1_3.length c1_3]) (t := 30) ?hr ?_; (case hd => rfl); (case hg => rfl); (case hr => first | (go_simp; done) | (go_simp; rfl)); intro gb133 hg w29 hbox hb; have n0_ := Aside0.mk (blk_below (g := gb132) (o := .cells #[.int .i64 a0_0, .string a0_1, .slice A0_2 l0_2.length c0_2, .slice A0_3 l0_3.length c0_3] 30 (0, 0)) (by (with_reducible repeat (first | refine blk_drewN ?_ _ | refine blk_drew ?_ | refine blk_alloc ?_ _)); exact BK132.out) hb); have n1_ := Aside0.mk (below_step (by repeat (first | (with_reducible first | exact HB.out | apply below_alloc | apply pw_below_drewN | apply below_drew1 | refine below_set ?_ GE132.out) | exact HB.out)) hb); have n2_ := Aside0.mk (hbox); have n3_ := Aside0.mk ((by rw [hg]; exact (below_size (by repeat (first | (with_reducible first | exact HB.out | apply below_alloc | apply pw_below_drewN | apply below_drew1 | refine below_set ?_ GE132.out) | exact HB.out))) : w.heap.size ≤ gb133)); have n4_ := Aside0.mk ((by rw [hg]; exact (below_size (by repeat (first | (with_reducible first | exact HB.out | apply below_alloc | apply pw_below_drewN | apply below_drew1 | refine below_set ?_ GE132.out) | exact HB.out))) : w.heap.size ≤ gb133)); have n5_ := Aside0.mk ((by rw [hg]; exact Nat.ne_of_lt (blk_lt (g := gb132) (o := .cells #[.int .i64 a0_0, .string a0_1, .slice A0_2 l0_2.length c0_2, .slice A0_3 l0_3.length c0_3] 30 (0, 0)) (by (with_reducible repeat (first | refine blk_drewN ?_ _ | refine blk_drew ?_ | refine blk_alloc ?_ _)); exact BK132.out)) : gb132 ≠ gb133)); have n6_ := Aside0.mk ((by rw [hg]; exact Nat.ne_of_gt (blk_lt (g := gb132) (o := .cells #[.int .i64 a0_0, .string a0_1, .slice A0_2 l0_2.length c0_2, .slice A0_3 l0_3.length c0_3] 30 (0, 0)) (by (with_reducible repeat (first | refine blk_drewN ?_ _ | refine blk_drew ?_ | refine blk_alloc ?_ _)); exact BK132.out)) : gb133 ≠ gb132)); clear BK132; clear HB; have BK132 := n0_; have HB := n1_; have BK133 := n2_; have GW133 := n3_; have GE133 := n4_; have NB132_133 := n5_; have NB133_132 := n6_; clear n0_ n1_ n2_ n3_ n4_ n5_ n6_; clear hb hbox hg; have hnb30 := NB132_133.out; have hnc30 := NB133_132.out; have hcz31_0 : w29.cell? ⟨gb132, 0, none⟩ = some (.int .i64 a0_0) := (blk_cell BK132.out 0).trans rfl; have hcz31_1 : w29.cell? ⟨gb132, 1, none⟩ = some (.string a0_1) := (blk_cell BK132.out 1).trans rfl; have hcz31_2 : w29.cell? ⟨gb132, 2, none⟩ = some (.slice A0_2 l0_2.length c0_2) := (blk_cell BK132.out 2).trans rfl; have hcz31_3 : w29.cell? ⟨gb132, 3, none⟩ = some (.slice A0_3 l0_3.length c0_3) := (blk_cell BK132.out 3).trans rfl; have hfz31_0 := blk_frozen BK132.out 0; have hfz31_1 := blk_frozen BK132.out 1; have hfz31_2 := blk_frozen BK132.out 2; have hfz31_3 := blk_frozen BK132.out 3; have hcz32_0 : w29.cell? ⟨gb133, 0, none⟩ = some (.int .i64 a1_0) := (blk_cell BK133.out 0).trans rfl; have hcz32_1 : w29.cell? ⟨gb133, 1, none⟩ = some (.string a1_1) := (blk_cell BK133.out 1).trans rfl; have hcz32_2 : w29.cell? ⟨gb133, 2, none⟩ = some (.slice A1_2 l1_2.length c1_2) := (blk_cell BK133.out 2).trans rfl; have hcz32_3 : w29.cell? ⟨gb133, 3, none⟩ = some (.slice A1_3 l1_3.length c1_3) := (blk_cell BK133.out 3).trans rfl; have hfz32_0 := blk_frozen BK133.out 0; have hfz32_1 := blk_frozen BK133.out 1; have hfz32_2 := blk_frozen BK133.out 2; have hfz32_3 := blk_frozen BK133.out 3))
    go_ret
    exact ⟨by first | rfl | (simp [errW_none, errW_some] <;> rfl) | (simp [*, errW_none, errW_some] <;> rfl), by repeat (first | (with_reducible first | exact HB.out | apply below_alloc | apply pw_below_drewN | apply below_drew1 | refine below_set ?_ GE132.out | refine below_set ?_ GE133.out) | exact HB.out)⟩
end Go.Proofs.Ythbcekjiljkchaa.XM
namespace Go.Proofs.Ythbcekjiljkchaa.XM
open Go.RowKit Go.Proofs.YthbcekjiljkchaaW.PrintWords Go.Proofs.YthbcekjiljkchaaW.PrintLast Go.Proofs.YthbcekjiljkchaaW.PrintMore
attribute [local go_sem] max2_int min2_int max_two min_two max_three min_three max_four min_four   -- for this text's walks alone
set_option linter.unusedVariables false
set_option linter.unusedSimpArgs false
def switchyardref13_SameBox.l0 : Nat → List (S30) → List (S30) → Int → Int → Option (Bool)
  | 0, _, _, _, _ => none
  | k + 1, x0, x1, x12, x13 => if x13 < x12 then (if 0 ≤ x13 then (if x13 < (x0.length : Int) then (if x13 < (x1.length : Int) then ((switchyardref13_SameMail.f k ((rd_T30 x0 x13).f0) ((rd_T30 x0 x13).f1) ((rd_T30 x0 x13).f2) ((rd_T30 x0 x13).f3) ((rd_T30 x1 x13).f0) ((rd_T30 x1 x13).f1) ((rd_T30 x1 x13).f2) ((rd_T30 x1 x13).f3)).bind fun t138 => (if t138 = true then (switchyardref13_SameBox.l0 k x0 x1 x12 (wrap64 (x13 + 1))) else (some false))) else (none)) else (none)) else (none)) else (some true)
def switchyardref13_SameBox.f (k : Nat) (l0 : List (S30)) (l1 : List (S30)) : Option (Bool) := if (l0.length : Int) = (l1.length : Int) then (switchyardref13_SameBox.l0 k l0 l1 (l0.length : Int) 0) else (some false)
def switchyardref13_SameBox.T6 : Bool × List (List Nat × List Nat) := (true, [([], []), ([], []), ([0, 1], [0, 1]), ([2], [2]), ([], []), ([], []), ([4, 5], [4, 5]), ([6], [6]), ([3, 7], [3, 7]), ([8], [8])])
def switchyardref13_SameBox.B6 : List Nat := [0, 0, 3, 7, 0, 0, 48, 112, 255, 511]
theorem switchyardref13_SameBox.tab6 : rtab .any (opsOf Try.f14 6) = switchyardref13_SameBox.T6 := by kernel_rfl
theorem switchyardref13_SameBox.bits6 : waitsOk switchyardref13_SameBox.T6.2 switchyardref13_SameBox.B6 = true := by kernel_rfl
set_option maxHeartbeats 600000 in
set_option maxRecDepth 100000 in
theorem switchyardref13_SameBox.calls (k : Nat) (A0 : Option Addr) (c0 : Nat) (l0 : List (S30)) (A1 : Option Addr) (c1 : Nat) (l1 : List (S30)) (r : Bool) (w : World) (hr0 : Kd.C k30 w A0 l0.length l0) (hc0 : l0.length ≤ c0) (hr1 : Kd.C k30 w A1 l1.length l1) (hc1 : l1.length ≤ c1) (h : switchyardref13_SameBox.f k l0 l1 = some r) :
    Calls Try.prog 14 #[.slice A0 l0.length c0, .slice A1 l1.length c1] w fun e w' => e = .returned (.bool r) ∧ Below w.heap.size w w' := by
  have hu30 := Try.underlying30
  have HR0 := Aside0.mk hr0
  have HC0 := Aside0.mk hc0
  clear hr0 hc0
  have HR1 := Aside0.mk hr1
  have HC1 := Aside0.mk hc1
  clear hr1 hc1
  have HB := Aside0.mk (Below.refl w.heap.size w)
  have H : (if (l0.length : Int) = (l1.length : Int) then (switchyardref13_SameBox.l0 k l0 l1 (l0.length : Int) 0) else (some false)) = some r := h
  clear h
  by_cases c3 : (l0.length : Int) = (l1.length : Int)
  · rw [if_pos c3] at H
    have c3b0 : ((l0.length : Int) == (l1.length : Int)) = true := beq_iff_eq.mpr c3
    have c3b1 : ((l0.length : Int) != (l1.length : Int)) = false := bne_eq_false_iff_eq.mpr c3
    have c3b2 : (l0.length == l1.length) = true := by first | simpa using c3 | (simp at c3 ⊢; omega)
    clear c3
    have H' := Aside0.mk H
    clear H
    go_enter Try.func14, Try.ntmps14
    go_wp2
    go_loopg [13] k (fun kq v13 w' => ∃ (x13_1 : Int), v13 = .int .i64 x13_1 ∧ Aside0 (switchyardref13_SameBox.l0 kq l0 l1 (l0.length : Int) x13_1 = some r) ∧ Aside0 (kq ≤ k) ∧ Aside0 (Below w.heap.size w w'))
    case atStart => exact ⟨(0), (by first | rfl | (simp; done) | (simp [*]; done)), H', ⟨Nat.le_refl _⟩, ⟨by repeat (first | (with_reducible first | exact HB.out | apply below_alloc | apply pw_below_drewN | apply below_drew1) | exact HB.out)⟩⟩
    case round =>
      clear H'
      try clear c1
      try clear p2
      try clear c3
      try clear c3b0
      try clear c3b1
      try clear c3b2
      obtain ⟨x13_1, rfl, HA, HK1, HB⟩ := hrel
      cases gk with
      | zero => exact absurd HA.out (by simp [switchyardref13_SameBox.l0])
      | succ k1 =>
        have H := HA.out
        clear HA
        simp only [switchyardref13_SameBox.l0] at H
        by_cases c4 : x13_1 < (l0.length : Int)
        · rw [if_pos c4] at H
          have c4b0 : decide (x13_1 < (l0.length : Int)) = true := decide_eq_true c4
          clear c4
          by_cases c5 : 0 ≤ x13_1
          · rw [if_pos c5] at H
            have c5b0 : decide (0 ≤ x13_1) = true := decide_eq_true c5
            clear c5
            by_cases c6 : x13_1 < (l0.length : Int)
            · rw [if_pos c6] at H
              have c6b0 : decide (x13_1 < (l0.length : Int)) = true := decide_eq_true c6
              clear c6
              by_cases c7 : x13_1 < (l1.length : Int)
              · rw [if_pos c7] at H
                have c7b0 : decide (x13_1 < (l1.length : Int)) = true := decide_eq_true c7
                clear c7
                replace H := Option.bind_eq_some_iff.mp H
                obtain ⟨t138, A80, H⟩ := H
                replace H : (if t138 = true then (switchyardref13_SameBox.l0 k1 l0 l1 (l0.length : Int) (wrap64 (x13_1 + 1))) else (some false)) = some r := H
                have A8 := Aside0.mk A80
                clear A80
                by_cases c9 : t138 = true
                · subst c9
                  have H1 : (switchyardref13_SameBox.l0 k1 l0 l1 (l0.length : Int) (wrap64 (x13_1 + 1))) = some r := by rw [if_pos rfl] at H; exact H
                  clear H
                  have H := H1
                  clear H1
                  have H' := Aside0.mk H
                  clear H
                  try go_wp2
                  have n0_ := Aside0.mk (below_drew1 HB.out)
                  clear HB
                  have HB := n0_
                  clear n0_
                  have p136 : 0 ≤ (x13_1 : Int) := of_decide_eq_true (by first | (with_reducible assumption) | assumption)
                  have q136 : x13_1 < (l0.length : Int) := of_decide_eq_true (by first | (with_reducible assumption) | assumption)
                  obtain ⟨ad136, A136_2, c136_2, A136_3, c136_3, e136, hx136_0, hx136_1, hx136_2, hx136_3, hl136_2, hi136_2, hl136_3, hi136_3⟩ := at_T30 HR0.out x13_1 p136 q136
                  have hw136_3 := hx136_3
                  have hw136_2 := hx136_2
                  have hw136_1 := hx136_1
                  have hw136_0 := hx136_0
                  cases e136
                  replace hx136_0 := (HB.out.cell (World.block_lt_of_cell? w _ hx136_0)).trans hx136_0
                  replace hx136_1 := (HB.out.cell (World.block_lt_of_cell? w _ hx136_1)).trans hx136_1
                  replace hx136_2 := (HB.out.cell (World.block_lt_of_cell? w _ hx136_2)).trans hx136_2
                  replace hx136_3 := (HB.out.cell (World.block_lt_of_cell? w _ hx136_3)).trans hx136_3
                  have HR136_2 := Aside0.mk hi136_2
                  have HC136_2 := Aside0.mk hl136_2
                  clear hi136_2 hl136_2
                  have HR136_3 := Aside0.mk hi136_3
                  have HC136_3 := Aside0.mk hl136_3
                  clear hi136_3 hl136_3
                  replace p136 := eq_true p136
                  replace q136 := eq_true q136
                  have p137 : 0 ≤ (x13_1 : Int) := of_decide_eq_true (by first | (with_reducible assumption) | assumption)
                  have q137 : x13_1 < (l1.length : Int) := of_decide_eq_true (by first | (with_reducible assumption) | assumption)
                  obtain ⟨ad137, A137_2, c137_2, A137_3, c137_3, e137, hx137_0, hx137_1, hx137_2, hx137_3, hl137_2, hi137_2, hl137_3, hi137_3⟩ := at_T30 HR1.out x13_1 p137 q137
                  have hw137_3 := hx137_3
                  have hw137_2 := hx137_2
                  have hw137_1 := hx137_1
                  have hw137_0 := hx137_0
                  cases e137
                  replace hx137_0 := (HB.out.cell (World.block_lt_of_cell? w _ hx137_0)).trans hx137_0
                  replace hx137_1 := (HB.out.cell (World.block_lt_of_cell? w _ hx137_1)).trans hx137_1
                  replace hx137_2 := (HB.out.cell (World.block_lt_of_cell? w _ hx137_2)).trans hx137_2
                  replace hx137_3 := (HB.out.cell (World.block_lt_of_cell? w _ hx137_3)).trans hx137_3
                  have HR137_2 := Aside0.mk hi137_2
                  have HC137_2 := Aside0.mk hl137_2
                  clear hi137_2 hl137_2
                  have HR137_3 := Aside0.mk hi137_3
                  have HC137_3 := Aside0.mk hl137_3
                  clear hi137_3 hl137_3
                  replace p137 := eq_true p137
                  replace q137 := eq_true q137
                  refine start_ (n := 10) (S := fun w' => w'.cell? (ad136.add ((x13_1).toNat * 4)) = some (.int .i64 ((rd_T30 l0 x13_1).f0)) ∧ w'.cell? ⟨(ad136.add ((x13_1).toNat * 4)).block, (ad136.add ((x13_1).toNat * 4)).off + 1, none⟩ = some (.string ((rd_T30 l0 x13_1).f1)) ∧ w'.cell? ⟨(ad136.add ((x13_1).toNat * 4)).block, (ad136.add ((x13_1).toNat * 4)).off + 2, none⟩ = some (.slice A136_2 ((rd_T30 l0 x13_1).f2).length c136_2) ∧ w'.cell? ⟨(ad136.add ((x13_1).toNat * 4)).block, (ad136.add ((x13_1).toNat * 4)).off + 3, none⟩ = some (.slice A136_3 ((rd_T30 l0 x13_1).f3).length c136_3) ∧ w'.cell? (ad137.add ((x13_1).toNat * 4)) = some (.int .i64 ((rd_T30 l1 x13_1).f0)) ∧ w'.cell? ⟨(ad137.add ((x13_1).toNat * 4)).block, (ad137.add ((x13_1).toNat * 4)).off + 1, none⟩ = some (.string ((rd_T30 l1 x13_1).f1)) ∧ w'.cell? ⟨(ad137.add ((x13_1).toNat * 4)).block, (ad137.add ((x13_1).toNat * 4)).off + 2, none⟩ = some (.slice A137_2 ((rd_T30 l1 x13_1).f2).length c137_2) ∧ w'.cell? ⟨(ad137.add ((x13_1).toNat * 4)).block, (ad137.add ((x13_1).toNat * 4)).off + 3, none⟩ = some (.slice A137_3 ((rd_T30 l1 x13_1).f3).length c137_3)) (ds := []) #[false, false, false, false, false, false, false, false, false, false] (by kernel_rfl) rfl rfl ⟨((HB.out.cell (World.block_lt_of_cell? w _ hw136_0)).trans hw136_0), ((HB.out.cell (World.block_lt_of_cell? w _ hw136_1)).trans hw136_1), ((HB.out.cell (World.block_lt_of_cell? w _ hw136_2)).trans hw136_2), ((HB.out.cell (World.block_lt_of_cell? w _ hw136_3)).trans hw136_3), ((HB.out.cell (World.block_lt_of_cell? w _ hw137_0)).trans hw137_0), ((HB.out.cell (World.block_lt_of_cell? w _ hw137_1)).trans hw137_1), ((HB.out.cell (World.block_lt_of_cell? w _ hw137_2)).trans hw137_2), ((HB.out.cell (World.block_lt_of_cell? w _ hw137_3)).trans hw137_3)⟩ (fun hHeld => ?_); refine with_tabW switchyardref13_SameBox.tab6 switchyardref13_SameBox.bits6 (fun HT_ HW_ => ?_)
                  generalize wr.drew = w10 at HB HR136_2 HR136_3 HR137_2 HR137_3 hx136_0 hx136_1 hx136_2 hx136_3 hx137_0 hx137_1 hx137_2 hx137_3 hHeld ⊢
                  refine pure_ (i := 0) (N := some 16) (v := ?_) (a' := ?_) #[true, false, false, false, false, false, false, false, false, false] rfl rfl (any_of HT_.out (by kernel_rfl)) (fun _ _ _ h => h) (Or.inl ⟨by rfl, ?_⟩) ?_ ?_
                  rotate_left
                  · intro w'
                    go_simp
                    with_reducible rfl
                  rotate_left
                  · simp only [Act.put, List.setIfInBounds_toArray, List.set_cons_zero, List.set_cons_succ, i64_w, i32_w]
                    rfl
                  refine pure_ (i := 1) (N := some 17) (v := ?_) (a' := ?_) #[true, true, false, false, false, false, false, false, false, false] rfl rfl (any_of HT_.out (by kernel_rfl)) (fun _ _ _ h => h) (Or.inl ⟨by rfl, ?_⟩) ?_ ?_
                  rotate_left
                  · intro w'
                    go_simp
                    with_reducible rfl
                  rotate_left
                  · simp only [Act.put, List.setIfInBounds_toArray, List.set_cons_zero, List.set_cons_succ, i64_w, i32_w]
                    rfl
                  refine pure_ (i := 2) (N := some 18) (v := ?_) (a' := ?_) #[true, true, true, false, false, false, false, false, false, false] rfl rfl (any_of HT_.out (by kernel_rfl)) (fun _ _ _ h => h) (Or.inl ⟨by rfl, ?_⟩) ?_ ?_
                  rotate_left
                  · intro w'
                    go_simp
                    with_reducible rfl
                  rotate_left
                  · simp only [Act.put, List.setIfInBounds_toArray, List.set_cons_zero, List.set_cons_succ, i64_w, i32_w]
                    rfl
                  refine pure_ (i := 4) (N := some 20) (v := ?_) (a' := ?_) #[true, true, true, false, true, false, false, false, false, false] rfl rfl (any_of HT_.out (by kernel_rfl)) (fun _ _ _ h => h) (Or.inl ⟨by rfl, ?_⟩) ?_ ?_
                  rotate_left
                  · intro w'
                    go_simp
                    with_reducible rfl
                  rotate_left
                  · simp only [Act.put, List.setIfInBounds_toArray, List.set_cons_zero, List.set_cons_succ, i64_w, i32_w]
                    rfl
                  refine pure_ (i := 5) (N := some 21) (v := ?_) (a' := ?_) #[true, true, true, false, true, true, false, false, false, false] rfl rfl (any_of HT_.out (by kernel_rfl)) (fun _ _ _ h => h) (Or.inl ⟨by rfl, ?_⟩) ?_ ?_
                  rotate_left
                  · intro w'
                    go_simp
                    with_reducible rfl
                  rotate_left
                  · simp only [Act.put, List.setIfInBounds_toArray, List.set_cons_zero, List.set_cons_succ, i64_w, i32_w]
                    rfl
                  refine pure_ (i := 6) (N := some 22) (v := ?_) (a' := ?_) #[true, true, true, false, true, true, true, false, false, false] rfl rfl (any_of HT_.out (by kernel_rfl)) (fun _ _ _ h => h) (Or.inl ⟨by rfl, ?_⟩) ?_ ?_
                  rotate_left
                  · intro w'
                    go_simp
                    with_reducible rfl
                  rotate_left
                  · simp only [Act.put, List.setIfInBounds_toArray, List.set_cons_zero, List.set_cons_succ, i64_w, i32_w]
                    rfl
                  refine take_ (i := 3) (N := some 19) (v := ?_) (a' := ?_) #[true, true, true, true, true, true, true, false, false, false] rfl rfl (take_ofW HT_.out HW_.out (by kernel_rfl)) (fun _ _ _ h => h) (Or.inl ⟨by rfl, ?_⟩) hHeld ?_ ?_
                  rotate_left
                  · rintro w' ⟨s0, s1, s2, s3, s4, s5, s6, s7⟩
                    go_simp
                    with_reducible rfl
                  rotate_left
                  · simp only [Act.put, List.setIfInBounds_toArray, List.set_cons_zero, List.set_cons_succ, i64_w, i32_w]
                    rfl
                  refine take_ (i := 7) (N := some 23) (v := ?_) (a' := ?_) #[true, true, true, true, true, true, true, true, false, false] rfl rfl (take_ofW HT_.out HW_.out (by kernel_rfl)) (fun _ _ _ h => h) (Or.inl ⟨by rfl, ?_⟩) hHeld ?_ ?_
                  rotate_left
                  · rintro w' ⟨s0, s1, s2, s3, s4, s5, s6, s7⟩
                    go_simp
                    with_reducible rfl
                  rotate_left
                  · simp only [Act.put, List.setIfInBounds_toArray, List.set_cons_zero, List.set_cons_succ, i64_w, i32_w]
                    rfl
                  refine one_ (i := 8) (N := some 24) #[true, true, true, true, true, true, true, true, true, false] rfl rfl (one_of HT_.out (by kernel_rfl)) (by decide) (fun K hK => ?_)
                  refine goes_ Try.func13 (by kernel_rfl) rfl #[.agg #[.int .i64 ((rd_T30 l0 x13_1).f0), .string ((rd_T30 l0 x13_1).f1), .slice A136_2 ((rd_T30 l0 x13_1).f2).length c136_2, .slice A136_3 ((rd_T30 l0 x13_1).f3).length c136_3], .agg #[.int .i64 ((rd_T30 l1 x13_1).f0), .string ((rd_T30 l1 x13_1).f1), .slice A137_2 ((rd_T30 l1 x13_1).f2).length c137_2, .slice A137_3 ((rd_T30 l1 x13_1).f3).length c137_3]] (by rfl) rfl rfl (by (try simp only [List.map_toArray, List.map_cons, List.map_nil]); first | done | rfl | (simp only [List.length_drop, List.length_take]; rfl)) ?_
                  with_reducible refine (switchyardref13_SameMail.calls k1 ((rd_T30 l0 x13_1).f0) ((rd_T30 l0 x13_1).f1) _ _ ((rd_T30 l0 x13_1).f2) _ _ ((rd_T30 l0 x13_1).f3) ((rd_T30 l1 x13_1).f0) ((rd_T30 l1 x13_1).f1) _ _ ((rd_T30 l1 x13_1).f2) _ _ ((rd_T30 l1 x13_1).f3) true _ ?side1 ?side2 ?side3 ?side4 ?side5 ?side6 ?side7 ?side8 A8.out).mono ?_
                  (case side1 => repeat (first | exact (Kd.C_below HR136_2.out HB.out) | (with_reducible refine Kd.C_alloc ?_ _) | (with_reducible refine Kd.C_drewN ?_ _) | (with_reducible refine Kd.C_drew ?_)))
                  (case side2 => exact HC136_2.out)
                  (case side3 => repeat (first | exact (Kd.C_below HR136_3.out HB.out) | (with_reducible refine Kd.C_alloc ?_ _) | (with_reducible refine Kd.C_drewN ?_ _) | (with_reducible refine Kd.C_drew ?_)))
                  (case side4 => exact HC136_3.out)
                  (case side5 => repeat (first | exact (Kd.C_below HR137_2.out HB.out) | (with_reducible refine Kd.C_alloc ?_ _) | (with_reducible refine Kd.C_drewN ?_ _) | (with_reducible refine Kd.C_drew ?_)))
                  (case side6 => exact HC137_2.out)
                  (case side7 => repeat (first | exact (Kd.C_below HR137_3.out HB.out) | (with_reducible refine Kd.C_alloc ?_ _) | (with_reducible refine Kd.C_drewN ?_ _) | (with_reducible refine Kd.C_drew ?_)))
                  (case side8 => exact HC137_3.out)
                  rintro e w11 ⟨rfl, hb⟩
                  refine ⟨_, rfl, ?_⟩
                  have n0_ := Aside0.mk (below_step (by repeat (first | (with_reducible first | exact HB.out | apply below_alloc | apply pw_below_drewN | apply below_drew1) | exact HB.out)) hb)
                  clear HB
                  have HB := n0_
                  clear n0_
                  (try clear hb)
                  (try clear hb2)
                  (try clear hk)
                  (try clear hi)
                  refine hK.out _ _ ⟨((HB.out.cell (World.block_lt_of_cell? w _ hw136_0)).trans hw136_0), ((HB.out.cell (World.block_lt_of_cell? w _ hw136_1)).trans hw136_1), ((HB.out.cell (World.block_lt_of_cell? w _ hw136_2)).trans hw136_2), ((HB.out.cell (World.block_lt_of_cell? w _ hw136_3)).trans hw136_3), ((HB.out.cell (World.block_lt_of_cell? w _ hw137_0)).trans hw137_0), ((HB.out.cell (World.block_lt_of_cell? w _ hw137_1)).trans hw137_1), ((HB.out.cell (World.block_lt_of_cell? w _ hw137_2)).trans hw137_2), ((HB.out.cell (World.block_lt_of_cell? w _ hw137_3)).trans hw137_3)⟩ (fun hHeld => ?_)
                  clear hK K
                  refine norm_ (a' := ?_) ?_ ?_
                  rotate_left
                  · show Act.put _ (some 24) _ = _
                    simp only [Act.put, List.setIfInBounds_toArray, List.set_cons_zero, List.set_cons_succ, i64_w, i32_w]
                    rfl
                  refine pure_ (i := 9) (N := some 25) (v := ?_) (a' := ?_) #[true, true, true, true, true, true, true, true, true, true] rfl rfl (any_of HT_.out (by kernel_rfl)) (fun _ _ _ h => h) (Or.inl ⟨by rfl, ?_⟩) ?_ ?_
                  rotate_left
                  · intro w'
                    go_simp
                    with_reducible rfl
                  rotate_left
                  · simp only [Act.put, List.setIfInBounds_toArray, List.set_cons_zero, List.set_cons_succ, i64_w, i32_w]
                    rfl
                  refine done_ (done_of HT_.out (by kernel_rfl)) ?_
                  try go_wp2
                  go_roundg k1
                  case measure => have := HK1.out; omega
                  case rel => exact ⟨(wrap64 (x13_1 + 1)), (by first | rfl | (simp; done) | (simp [*]; done)), H', ⟨by have := HK1.out; omega⟩, ⟨by repeat (first | (with_reducible first | exact HB.out | apply below_alloc | apply pw_below_drewN | apply below_drew1) | exact HB.out)⟩⟩
                · replace c9 := Bool.eq_false_iff.mpr c9
                  subst c9
                  have H1 : (some false) = some r := by rw [if_neg (show ¬ (false = true) by decide)] at H; exact H
                  clear H
                  have H := H1
                  clear H1
                  obtain rfl := Option.some.inj H
                  try go_wp2
                  have n0_ := Aside0.mk (below_drew1 HB.out)
                  clear HB
                  have HB := n0_
                  clear n0_
                  have p136 : 0 ≤ (x13_1 : Int) := of_decide_eq_true (by first | (with_reducible assumption) | assumption)
                  have q136 : x13_1 < (l0.length : Int) := of_decide_eq_true (by first | (with_reducible assumption) | assumption)
                  obtain ⟨ad136, A136_2, c136_2, A136_3, c136_3, e136, hx136_0, hx136_1, hx136_2, hx136_3, hl136_2, hi136_2, hl136_3, hi136_3⟩ := at_T30 HR0.out x13_1 p136 q136
                  have hw136_3 := hx136_3
                  have hw136_2 := hx136_2
                  have hw136_1 := hx136_1
                  have hw136_0 := hx136_0
                  cases e136
                  replace hx136_0 := (HB.out.cell (World.block_lt_of_cell? w _ hx136_0)).trans hx136_0
                  replace hx136_1 := (HB.out.cell (World.block_lt_of_cell? w _ hx136_1)).trans hx136_1
                  replace hx136_2 := (HB.out.cell (World.block_lt_of_cell? w _ hx136_2)).trans hx136_2
                  replace hx136_3 := (HB.out.cell (World.block_lt_of_cell? w _ hx136_3)).trans hx136_3
                  have HR136_2 := Aside0.mk hi136_2
                  have HC136_2 := Aside0.mk hl136_2
                  clear hi136_2 hl136_2
                  have HR136_3 := Aside0.mk hi136_3
                  have HC136_3 := Aside0.mk hl136_3
                  clear hi136_3 hl136_3
                  replace p136 := eq_true p136
                  replace q136 := eq_true q136
                  have p137 : 0 ≤ (x13_1 : Int) := of_decide_eq_true (by first | (with_reducible assumption) | assumption)
                  have q137 : x13_1 < (l1.length : Int) := of_decide_eq_true (by first | (with_reducible assumption) | assumption)
                  obtain ⟨ad137, A137_2, c137_2, A137_3, c137_3, e137, hx137_0, hx137_1, hx137_2, hx137_3, hl137_2, hi137_2, hl137_3, hi137_3⟩ := at_T30 HR1.out x13_1 p137 q137
                  have hw137_3 := hx137_3
                  have hw137_2 := hx137_2
                  have hw137_1 := hx137_1
                  have hw137_0 := hx137_0
                  cases e137
                  replace hx137_0 := (HB.out.cell (World.block_lt_of_cell? w _ hx137_0)).trans hx137_0
                  replace hx137_1 := (HB.out.cell (World.block_lt_of_cell? w _ hx137_1)).trans hx137_1
                  replace hx137_2 := (HB.out.cell (World.block_lt_of_cell? w _ hx137_2)).trans hx137_2
                  replace hx137_3 := (HB.out.cell (World.block_lt_of_cell? w _ hx137_3)).trans hx137_3
                  have HR137_2 := Aside0.mk hi137_2
                  have HC137_2 := Aside0.mk hl137_2
                  clear hi137_2 hl137_2
                  have HR137_3 := Aside0.mk hi137_3
                  have HC137_3 := Aside0.mk hl137_3
                  clear hi137_3 hl137_3
                  replace p137 := eq_true p137
                  replace q137 := eq_true q137
                  refine start_ (n := 10) (S := fun w' => w'.cell? (ad136.add ((x13_1).toNat * 4)) = some (.int .i64 ((rd_T30 l0 x13_1).f0)) ∧ w'.cell? ⟨(ad136.add ((x13_1).toNat * 4)).block, (ad136.add ((x13_1).toNat * 4)).off + 1, none⟩ = some (.string ((rd_T30 l0 x13_1).f1)) ∧ w'.cell? ⟨(ad136.add ((x13_1).toNat * 4)).block, (ad136.add ((x13_1).toNat * 4)).off + 2, none⟩ = some (.slice A136_2 ((rd_T30 l0 x13_1).f2).length c136_2) ∧ w'.cell? ⟨(ad136.add ((x13_1).toNat * 4)).block, (ad136.add ((x13_1).toNat * 4)).off + 3, none⟩ = some (.slice A136_3 ((rd_T30 l0 x13_1).f3).length c136_3) ∧ w'.cell? (ad137.add ((x13_1).toNat * 4)) = some (.int .i64 ((rd_T30 l1 x13_1).f0)) ∧ w'.cell? ⟨(ad137.add ((x13_1).toNat * 4)).block, (ad137.add ((x13_1).toNat * 4)).off + 1, none⟩ = some (.string ((rd_T30 l1 x13_1).f1)) ∧ w'.cell? ⟨(ad137.add ((x13_1).toNat * 4)).block, (ad137.add ((x13_1).toNat * 4)).off + 2, none⟩ = some (.slice A137_2 ((rd_T30 l1 x13_1).f2).length c137_2) ∧ w'.cell? ⟨(ad137.add ((x13_1).toNat * 4)).block, (ad137.add ((x13_1).toNat * 4)).off + 3, none⟩ = some (.slice A137_3 ((rd_T30 l1 x13_1).f3).length c137_3)) (ds := []) #[false, false, false, false, false, false, false, false, false, false] (by kernel_rfl) rfl rfl ⟨((HB.out.cell (World.block_lt_of_cell? w _ hw136_0)).trans hw136_0), ((HB.out.cell (World.block_lt_of_cell? w _ hw136_1)).trans hw136_1), ((HB.out.cell (World.block_lt_of_cell? w _ hw136_2)).trans hw136_2), ((HB.out.cell (World.block_lt_of_cell? w _ hw136_3)).trans hw136_3), ((HB.out.cell (World.block_lt_of_cell? w _ hw137_0)).trans hw137_0), ((HB.out.cell (World.block_lt_of_cell? w _ hw137_1)).trans hw137_1), ((HB.out.cell (World.block_lt_of_cell? w _ hw137_2)).trans hw137_2), ((HB.out.cell (World.block_lt_of_cell? w _ hw137_3)).trans hw137_3)⟩ (fun hHeld => ?_); refine with_tabW switchyardref13_SameBox.tab6 switchyardref13_SameBox.bits6 (fun HT_ HW_ => ?_)
                  generalize wr.drew = w12 at HB HR136_2 HR136_3 HR137_2 HR137_3 hx136_0 hx136_1 hx136_2 hx136_3 hx137_0 hx137_1 hx137_2 hx137_3 hHeld ⊢
                  refine pure_ (i := 0) (N := some 16) (v := ?_) (a' := ?_) #[true, false, false, false, false, false, false, false, false, false] rfl rfl (any_of HT_.out (by kernel_rfl)) (fun _ _ _ h => h) (Or.inl ⟨by rfl, ?_⟩) ?_ ?_
                  rotate_left
                  · intro w'
                    go_simp
                    with_reducible rfl
                  rotate_left
                  · simp only [Act.put, List.setIfInBounds_toArray, List.set_cons_zero, List.set_cons_succ, i64_w, i32_w]
                    rfl
                  refine pure_ (i := 1) (N := some 17) (v := ?_) (a' := ?_) #[true, true, false, false, false, false, false, false, false, false] rfl rfl (any_of HT_.out (by kernel_rfl)) (fun _ _ _ h => h) (Or.inl ⟨by rfl, ?_⟩) ?_ ?_
                  rotate_left
                  · intro w'
                    go_simp
                    with_reducible rfl
                  rotate_left
                  · simp only [Act.put, List.setIfInBounds_toArray, List.set_cons_zero, List.set_cons_succ, i64_w, i32_w]
                    rfl
                  refine pure_ (i := 2) (N := some 18) (v := ?_) (a' := ?_) #[true, true, true, false, false, false, false, false, false, false] rfl rfl (any_of HT_.out (by kernel_rfl)) (fun _ _ _ h => h) (Or.inl ⟨by rfl, ?_⟩) ?_ ?_
                  rotate_left
                  · intro w'
                    go_simp
                    with_reducible rfl
                  rotate_left
                  · simp only [Act.put, List.setIfInBounds_toArray, List.set_cons_zero, List.set_cons_succ, i64_w, i32_w]
                    rfl
                  refine pure_ (i := 4) (N := some 20) (v := ?_) (a' := ?_) #[true, true, true, false, true, false, false, false, false, false] rfl rfl (any_of HT_.out (by kernel_rfl)) (fun _ _ _ h => h) (Or.inl ⟨by rfl, ?_⟩) ?_ ?_
                  rotate_left
                  · intro w'
                    go_simp
                    with_reducible rfl
                  rotate_left
                  · simp only [Act.put, List.setIfInBounds_toArray, List.set_cons_zero, List.set_cons_succ, i64_w, i32_w]
                    rfl
                  refine pure_ (i := 5) (N := some 21) (v := ?_) (a' := ?_) #[true, true, true, false, true, true, false, false, false, false] rfl rfl (any_of HT_.out (by kernel_rfl)) (fun _ _ _ h => h) (Or.inl ⟨by rfl, ?_⟩) ?_ ?_
                  rotate_left
                  · intro w'
                    go_simp
                    with_reducible rfl
                  rotate_left
                  · simp only [Act.put, List.setIfInBounds_toArray, List.set_cons_zero, List.set_cons_succ, i64_w, i32_w]
                    rfl
                  refine pure_ (i := 6) (N := some 22) (v := ?_) (a' := ?_) #[true, true, true, false, true, true, true, false, false, false] rfl rfl (any_of HT_.out (by kernel_rfl)) (fun _ _ _ h => h) (Or.inl ⟨by rfl, ?_⟩) ?_ ?_
                  rotate_left
                  · intro w'
                    go_simp
                    with_reducible rfl
                  rotate_left
                  · simp only [Act.put, List.setIfInBounds_toArray, List.set_cons_zero, List.set_cons_succ, i64_w, i32_w]
                    rfl
                  refine take_ (i := 3) (N := some 19) (v := ?_) (a' := ?_) #[true, true, true, true, true, true, true, false, false, false] rfl rfl (take_ofW HT_.out HW_.out (by kernel_rfl)) (fun _ _ _ h => h) (Or.inl ⟨by rfl, ?_⟩) hHeld ?_ ?_
                  rotate_left
                  · rintro w' ⟨s0, s1, s2, s3, s4, s5, s6, s7⟩
                    go_simp
                    with_reducible rfl
                  rotate_left
                  · simp only [Act.put, List.setIfInBounds_toArray, List.set_cons_zero, List.set_cons_succ, i64_w, i32_w]
                    rfl
                  refine take_ (i := 7) (N := some 23) (v := ?_) (a' := ?_) #[true, true, true, true, true, true, true, true, false, false] rfl rfl (take_ofW HT_.out HW_.out (by kernel_rfl)) (fun _ _ _ h => h) (Or.inl ⟨by rfl, ?_⟩) hHeld ?_ ?_
                  rotate_left
                  · rintro w' ⟨s0, s1, s2, s3, s4, s5, s6, s7⟩
                    go_simp
                    with_reducible rfl
                  rotate_left
                  · simp only [Act.put, List.setIfInBounds_toArray, List.set_cons_zero, List.set_cons_succ, i64_w, i32_w]
                    rfl
                  refine one_ (i := 8) (N := some 24) #[true, true, true, true, true, true, true, true, true, false] rfl rfl (one_of HT_.out (by kernel_rfl)) (by decide) (fun K hK => ?_)
                  refine goes_ Try.func13 (by kernel_rfl) rfl #[.agg #[.int .i64 ((rd_T30 l0 x13_1).f0), .string ((rd_T30 l0 x13_1).f1), .slice A136_2 ((rd_T30 l0 x13_1).f2).length c136_2, .slice A136_3 ((rd_T30 l0 x13_1).f3).length c136_3], .agg #[.int .i64 ((rd_T30 l1 x13_1).f0), .string ((rd_T30 l1 x13_1).f1), .slice A137_2 ((rd_T30 l1 x13_1).f2).length c137_2, .slice A137_3 ((rd_T30 l1 x13_1).f3).length c137_3]] (by rfl) rfl rfl (by (try simp only [List.map_toArray, List.map_cons, List.map_nil]); first | done | rfl | (simp only [List.length_drop, List.length_take]; rfl)) ?_
                  with_reducible refine (switchyardref13_SameMail.calls k1 ((rd_T30 l0 x13_1).f0) ((rd_T30 l0 x13_1).f1) _ _ ((rd_T30 l0 x13_1).f2) _ _ ((rd_T30 l0 x13_1).f3) ((rd_T30 l1 x13_1).f0) ((rd_T30 l1 x13_1).f1) _ _ ((rd_T30 l1 x13_1).f2) _ _ ((rd_T30 l1 x13_1).f3) false _ ?side1 ?side2 ?side3 ?side4 ?side5 ?side6 ?side7 ?side8 A8.out).mono ?_
                  (case side1 => repeat (first | exact (Kd.C_below HR136_2.out HB.out) | (with_reducible refine Kd.C_alloc ?_ _) | (with_reducible refine Kd.C_drewN ?_ _) | (with_reducible refine Kd.C_drew ?_)))
                  (case side2 => exact HC136_2.out)
                  (case side3 => repeat (first | exact (Kd.C_below HR136_3.out HB.out) | (with_reducible refine Kd.C_alloc ?_ _) | (with_reducible refine Kd.C_drewN ?_ _) | (with_reducible refine Kd.C_drew ?_)))
                  (case side4 => exact HC136_3.out)
                  (case side5 => repeat (first | exact (Kd.C_below HR137_2.out HB.out) | (with_reducible refine Kd.C_alloc ?_ _) | (with_reducible refine Kd.C_drewN ?_ _) | (with_reducible refine Kd.C_drew ?_)))
                  (case side6 => exact HC137_2.out)
                  (case side7 => repeat (first | exact (Kd.C_below HR137_3.out HB.out) | (with_reducible refine Kd.C_alloc ?_ _) | (with_reducible refine Kd.C_drewN ?_ _) | (with_reducible refine Kd.C_drew ?_)))
                  (case side8 => exact HC137_3.out)
                  rintro e w13 ⟨rfl, hb⟩
                  refine ⟨_, rfl, ?_⟩
                  have n0_ := Aside0.mk (below_step (by repeat (first | (with_reducible first | exact HB.out | apply below_alloc | apply pw_below_drewN | apply below_drew1) | exact HB.out)) hb)
                  clear HB
                  have HB := n0_
                  clear n0_
                  (try clear hb)
                  (try clear hb2)
                  (try clear hk)
                  (try clear hi)
                  refine hK.out _ _ ⟨((HB.out.cell (World.block_lt_of_cell? w _ hw136_0)).trans hw136_0), ((HB.out.cell (World.block_lt_of_cell? w _ hw136_1)).trans hw136_1), ((HB.out.cell (World.block_lt_of_cell? w _ hw136_2)).trans hw136_2), ((HB.out.cell (World.block_lt_of_cell? w _ hw136_3)).trans hw136_3), ((HB.out.cell (World.block_lt_of_cell? w _ hw137_0)).trans hw137_0), ((HB.out.cell (World.block_lt_of_cell? w _ hw137_1)).trans hw137_1), ((HB.out.cell (World.block_lt_of_cell? w _ hw137_2)).trans hw137_2), ((HB.out.cell (World.block_lt_of_cell? w _ hw137_3)).trans hw137_3)⟩ (fun hHeld => ?_)
                  clear hK K
                  refine norm_ (a' := ?_) ?_ ?_
                  rotate_left
                  · show Act.put _ (some 24) _ = _
                    simp only [Act.put, List.setIfInBounds_toArray, List.set_cons_zero, List.set_cons_succ, i64_w, i32_w]
                    rfl
                  refine pure_ (i := 9) (N := some 25) (v := ?_) (a' := ?_) #[true, true, true, true, true, true, true, true, true, true] rfl rfl (any_of HT_.out (by kernel_rfl)) (fun _ _ _ h => h) (Or.inl ⟨by rfl, ?_⟩) ?_ ?_
                  rotate_left
                  · intro w'
                    go_simp
                    with_reducible rfl
                  rotate_left
                  · simp only [Act.put, List.setIfInBounds_toArray, List.set_cons_zero, List.set_cons_succ, i64_w, i32_w]
                    rfl
                  refine done_ (done_of HT_.out (by kernel_rfl)) ?_
                  try go_wp2
                  go_ret
                  exact ⟨by first | rfl | (simp [errW_none, errW_some] <;> rfl) | (simp [*, errW_none, errW_some] <;> rfl), by repeat (first | (with_reducible first | exact HB.out | apply below_alloc | apply pw_below_drewN | apply below_drew1) | exact HB.out)⟩
              · rw [if_neg c7] at H
                exact absurd H (by simp)
            · rw [if_neg c6] at H
              exact absurd H (by simp)
          · rw [if_neg c5] at H
            exact absurd H (by simp)
        · rw [if_neg c4] at H
          have c4b0 : decide (x13_1 < (l0.length : Int)) = false := decide_eq_false c4
          clear c4
          obtain rfl := Option.some.inj H
          go_wp2
          go_ret
          exact ⟨by first | rfl | (simp [errW_none, errW_some] <;> rfl) | (simp [*, errW_none, errW_some] <;> rfl), by repeat (first | (with_reducible first | exact HB.out | apply below_alloc | apply pw_below_drewN | apply below_drew1) | exact HB.out)⟩
  · rw [if_neg c3] at H
    have c3b0 : ((l0.length : Int) == (l1.length : Int)) = false := beq_eq_false_iff_ne.mpr c3
    have c3b1 : ((l0.length : Int) != (l1.length : Int)) = true := bne_iff_ne.mpr c3
    have c3b2 : (l0.length == l1.length) = false := by first | simpa using c3 | (simp at c3 ⊢; omega)
    obtain rfl := Option.some.inj H
    go_enter Try.func14, Try.ntmps14
    go_wp2
    go_ret
    exact ⟨by first | rfl | (simp [errW_none, errW_some] <;> rfl) | (simp [*, errW_none, errW_some] <;> rfl), by repeat (first | (with_reducible first | exact HB.out | apply below_alloc | apply pw_below_drewN | apply below_drew1) | exact HB.out)⟩
end Go.Proofs.Ythbcekjiljkchaa.XM
namespace Go.Proofs.Ythbcekjiljkchaa.XM
open Go.RowKit Go.Proofs.YthbcekjiljkchaaW.PrintWords Go.Proofs.YthbcekjiljkchaaW.PrintLast Go.Proofs.YthbcekjiljkchaaW.PrintMore
set_option linter.unusedVariables false
set_option linter.unusedSimpArgs false
theorem wr_succ {i n : Nat} (h : i < n) (hn : n ≤ 9223372036854775807) : wrap64 ((i : Int) + 1) = ((i + 1 : Nat) : Int) := by
  unfold wrap64; omega
theorem rd_at {l : List Int} {i : Nat} (h : i < l.length) : rd l (i : Int) = l[i] := by
  unfold rd; simp [h]
theorem rdT_at {l : List S49} {i : Nat} (h : i < l.length) : rd_T49 l (i : Int) = l[i] := by
  unfold rd_T49; simp [h]
theorem Ev.pos {α : Type} {c : Prop} [Decidable c] {f g : Nat → Option α} {r : α} (hc : c) (h : Ev f r) : Ev (fun k => if c then f k else g k) r := Ev.congr (fun _ => if_pos hc) h
theorem Ev.neg {α : Type} {c : Prop} [Decidable c] {f g : Nat → Option α} {r : α} (hc : ¬ c) (h : Ev g r) : Ev (fun k => if c then f k else g k) r := Ev.congr (fun _ => if_neg hc) h
theorem Ev.val {α : Type} {r r' : α} (h : r = r') : Ev (fun _ => some r) r' := h ▸ Ev.now r
theorem str_eq_iff (t u : ByteArray) : t.toList = u.toList ↔ t = u := by
  constructor
  · intro h
    rw [ByteArray.toList_eq, ByteArray.toList_eq] at h
    exact ByteArray.ext (Array.toList_inj.1 h)
  · intro h; rw [h]
def sameB (a n : Int) (t : ByteArray) (l : List Int) (b m : Int) (u : ByteArray) (p : List Int) : Bool := decide (a = b ∧ n = m ∧ t = u ∧ l = p)
theorem same_loop (a n : Int) (t : ByteArray) (l : List Int) (b m : Int) (u : ByteArray) (p : List Int) (hl : l.length ≤ 4611686018427387904) (he : l.length = p.length) : ∀ d i : Nat, i + d = l.length → Ev (fun k => switchyardref06_Same.l0 k true (i : Int) a n t l b m u p) (decide (l.drop i = p.drop i)) := by
  intro d
  induction d with
  | zero =>
    intro i hi
    refine Ev.step (fun k => by simp only [switchyardref06_Same.l0]; rfl) (Ev.pos (by trivial) (Ev.neg (by omega) (Ev.val ?_)))
    rw [List.drop_eq_nil_of_le (show l.length ≤ i by omega), List.drop_eq_nil_of_le (show p.length ≤ i by omega)]; simp
  | succ d ih =>
    intro i hi
    have hlt : i < l.length := by omega
    have hpl : i < p.length := by omega
    refine Ev.step (fun k => by simp only [switchyardref06_Same.l0]; rfl) (Ev.pos (by trivial) (Ev.pos (by omega) (Ev.pos (by omega) (Ev.pos (by omega) ?_))))
    rw [rd_at hlt, rd_at hpl, List.drop_eq_getElem_cons hlt, List.drop_eq_getElem_cons hpl, wr_succ hlt (by omega)]
    by_cases h : l[i] = p[i]
    · rw [show (l[i] == p[i]) = true by simp [h]]
      have := ih (i + 1) (by omega)
      have e : decide (l[i] :: l.drop (i + 1) = p[i] :: p.drop (i + 1)) = decide (l.drop (i + 1) = p.drop (i + 1)) := by
        rw [decide_eq_decide]; rw [h]; simp only [List.cons.injEq, true_and]
      rw [e]; exact this
    · rw [show (l[i] == p[i]) = false by simp [h]]
      have e : decide (l[i] :: l.drop (i + 1) = p[i] :: p.drop (i + 1)) = false := by rw [decide_eq_false_iff_not]; intro hh; exact h (List.cons.inj hh).1
      rw [e]
      exact Ev.step (fun k => by simp only [switchyardref06_Same.l0]; rfl) (Ev.neg (by simp) (Ev.now _))
theorem ref_same_ev (a n : Int) (t : ByteArray) (l : List Int) (b m : Int) (u : ByteArray) (p : List Int) (hl : l.length ≤ 4611686018427387904) : Ev (fun k => switchyardref06_Same.f k a n t l b m u p) (sameB a n t l b m u p) := by
  have no : ¬ (a = b ∧ n = m ∧ t = u ∧ l = p) → Ev (fun k => switchyardref06_Same.j0 k false a n t l b m u p) (sameB a n t l b m u p) := by
    intro h
    rw [show sameB a n t l b m u p = false from decide_eq_false h]
    refine Ev.step (fun k => by simp only [switchyardref06_Same.j0]; rfl) ?_
    exact Ev.step (fun k => by simp only [switchyardref06_Same.l0]; rfl) (Ev.neg (by simp) (Ev.now _))
  unfold switchyardref06_Same.f
  by_cases h1 : a = b
  · refine Ev.pos h1 ?_
    by_cases h2 : n = m
    · refine Ev.pos h2 ?_
      by_cases h3 : t.toList = u.toList
      · refine Ev.pos h3 ?_
        have h3' := (str_eq_iff t u).1 h3
        by_cases h4 : l.length = p.length
        · rw [show ((l.length : Int) == (p.length : Int)) = true by simp [h4]]
          refine Ev.step (fun k => by simp only [switchyardref06_Same.j0]; rfl) ?_
          have := same_loop a n t l b m u p hl h4 l.length 0 (by omega)
          have e : sameB a n t l b m u p = decide (l = p) := by unfold sameB; rw [decide_eq_decide]; simp [h1, h2, h3']
          rw [e]
          simpa using this
        · rw [show ((l.length : Int) == (p.length : Int)) = false by simp; omega]
          exact no (fun h => h4 (by rw [h.2.2.2]))
      · exact Ev.neg h3 (no (fun h => h3 (by rw [h.2.2.1])))
    · exact Ev.neg h2 (no (fun h => h2 h.2.1))
  · exact Ev.neg h1 (no (fun h => h1 h.1))
instance : DecidableEq S49 := fun a b => by
  obtain ⟨a0, a1, a2, a3⟩ := a
  obtain ⟨b0, b1, b2, b3⟩ := b
  rw [S49.mk.injEq]
  exact inferInstance
theorem same_eq (v w : S49) : sameB v.f0 v.f1 v.f2 v.f3 w.f0 w.f1 w.f2 w.f3 = decide (v = w) := by
  unfold sameB
  rw [decide_eq_decide]
  obtain ⟨v0, v1, v2, v3⟩ := v
  obtain ⟨w0, w1, w2, w3⟩ := w
  rw [S49.mk.injEq]
theorem sameAll_loop (l m : List S49) (hl : l.length ≤ 4611686018427387904) (hL : ∀ v ∈ l, v.f3.length ≤ 4611686018427387904) (he : l.length = m.length) : ∀ d i : Nat, i + d = l.length → Ev (fun k => switchyardref06_SameAll.l0 k l m (l.length : Int) (i : Int)) (decide (l.drop i = m.drop i)) := by
  intro d
  induction d with
  | zero =>
    intro i hi
    refine Ev.step (fun k => by simp only [switchyardref06_SameAll.l0]; rfl) (Ev.neg (by omega) (Ev.val ?_))
    rw [List.drop_eq_nil_of_le (show l.length ≤ i by omega), List.drop_eq_nil_of_le (show m.length ≤ i by omega)]; simp
  | succ d ih =>
    intro i hi
    have hlt : i < l.length := by omega
    have hml : i < m.length := by omega
    refine Ev.step (fun k => by simp only [switchyardref06_SameAll.l0]; rfl) (Ev.pos (by omega) (Ev.pos (by omega) (Ev.pos (by omega) (Ev.pos (by omega) ?_))))
    rw [rdT_at hlt, rdT_at hml, wr_succ hlt (by omega)]
    refine Ev.bind (ref_same_ev _ _ _ _ _ _ _ _ (hL _ (List.getElem_mem hlt))) ?_
    rw [same_eq, List.drop_eq_getElem_cons hlt, List.drop_eq_getElem_cons hml]
    by_cases h : l[i] = m[i]
    · rw [decide_eq_true h]
      have e : decide (l[i] :: l.drop (i + 1) = m[i] :: m.drop (i + 1)) = decide (l.drop (i + 1) = m.drop (i + 1)) := by
        rw [decide_eq_decide, h]; simp only [List.cons.injEq, true_and]
      rw [e]
      exact Ev.pos rfl (ih (i + 1) (by omega))
    · rw [decide_eq_false h]
      have e : decide (l[i] :: l.drop (i + 1) = m[i] :: m.drop (i + 1)) = false := by rw [decide_eq_false_iff_not]; intro hh; exact h (List.cons.inj hh).1
      rw [e]
      exact Ev.neg (by simp) (Ev.now _)
theorem sameAll_ev (l m : List S49) (hl : l.length ≤ 4611686018427387904) (hL : ∀ v ∈ l, v.f3.length ≤ 4611686018427387904) : Ev (fun k => switchyardref06_SameAll.f k l m) (decide (l = m)) := by
  unfold switchyardref06_SameAll.f
  by_cases he : l.length = m.length
  · refine Ev.pos (by omega) ?_
    have := sameAll_loop l m hl hL he l.length 0 (by omega)
    simpa using this
  · refine Ev.neg (by omega) (Ev.val ?_)
    rw [eq_comm, decide_eq_false_iff_not]; intro h; exact he (by rw [h])
end Go.Proofs.Ythbcekjiljkchaa.XM
namespace Go.Proofs.Ythbcekjiljkchaa.XM
open Go.RowKit Go.Proofs.YthbcekjiljkchaaW.PrintWords Go.Proofs.YthbcekjiljkchaaW.PrintLast Go.Proofs.YthbcekjiljkchaaW.PrintMore
set_option linter.unusedVariables false
set_option linter.unusedSimpArgs false
instance : DecidableEq S30 := fun a b => by
  obtain ⟨a0, a1, a2, a3⟩ := a
  obtain ⟨b0, b1, b2, b3⟩ := b
  rw [S30.mk.injEq]
  exact inferInstance
/-- A row of values that is short, with lists that may be. -/
def OkV (l : List S49) : Prop := l.length ≤ 30 ∧ ∀ v ∈ l, v.f3.length * 8 ≤ 140737488355328
/-- A message whose rows are short. -/
def OkM (x : S30) : Prop := OkV x.f2 ∧ OkV x.f3
theorem OkV.short {l : List S49} (h : OkV l) : ∀ v ∈ l, v.f3.length ≤ 4611686018427387904 := fun v hv => by have := h.2 v hv; omega
theorem take_len {α : Type} (i : Nat) (l : List α) : (l.take i).length ≤ l.length := List.length_take_le' i l
theorem twin_loop (l : List S49) (h : OkV l) : ∀ d i : Nat, i + d = l.length → Ev (fun k => value_Twin.l0 k (l.take i) l (l.length : Int) (i : Int)) l := by
  have hl := h.1
  intro d
  induction d with
  | zero =>
    intro i hi
    refine Ev.step (fun k => by simp only [value_Twin.l0]; rfl) (Ev.neg (by omega) (Ev.val ?_))
    exact List.take_of_length_le (by omega)
  | succ d ih =>
    intro i hi
    have hlt : i < l.length := by omega
    have hs := h.2 _ (List.getElem_mem hlt)
    have next := ih (i + 1) (by omega)
    refine Ev.step (fun k => by simp only [value_Twin.l0]; rfl) (Ev.pos (by omega) (Ev.pos (by omega) (Ev.pos (by omega) ?_)))
    rw [rdT_at hlt, wr_succ hlt (by omega)]
    unfold slices_Clone_int64_int64.f
    rw [if_pos hs]
    refine Ev.bind (Ev.now _) (Ev.pos (by have := take_len i l; omega) ?_)
    rw [List.take_succ_eq_append_getElem hlt] at next
    exact next
theorem twin_ev (l : List S49) (h : OkV l) : Ev (fun k => value_Twin.f k l) l := by
  have := twin_loop l h l.length 0 (by omega)
  simpa [value_Twin.f] using this
theorem mtwin_ev (x : S30) (h : OkM x) : Ev (fun k => mail_twin.f k x.f0 x.f1 x.f2 x.f3) (x.f0, x.f1, x.f2, x.f3) :=
  Ev.bind (twin_ev _ h.1) (Ev.bind (twin_ev _ h.2) (Ev.now _))
end Go.Proofs.Ythbcekjiljkchaa.XM
namespace Go.Proofs.Ythbcekjiljkchaa.XM
open Go.RowKit Go.Conc Go.Proofs.YthbcekjiljkchaaW.PrintWords Go.Proofs.YthbcekjiljkchaaW.PrintLast Go.Proofs.YthbcekjiljkchaaW.PrintMore Go.Proofs.Ythbcekjiljkchaa.Comm
set_option linter.unusedVariables false
set_option linter.unusedSimpArgs false
theorem only_new {w w' : World} {o : Obj} (h : Only w.heap.size (w.alloc o) w') : Below w.heap.size w w' := by
  have hb0 := below_alloc (Below.refl w.heap.size w) o
  exact ⟨h.os.trans hb0.os, h.tape.trans hb0.tape, h.output.trans hb0.output, by rw [h.size]; exact hb0.size, fun k hk => (h.block k (by omega)).trans (hb0.block k hk)⟩
theorem Box.bound {w : World} {B : Nat} {ok : Nat → Prop} {g c cap : Nat} {ms : List S30} (h : Box w B ok g c cap ms) : Box w B (fun k => ok k ∧ B ≤ k ∧ k < w.heap.size) g c cap ms := by
  obtain ⟨h1, h2, h3, vs, h4, h5⟩ := h
  refine ⟨h1, h2, h3, vs, h4, h5.imp (fun _ _ hh => ?_)⟩
  obtain ⟨v2, v3, e, r2, r3⟩ := hh
  exact ⟨v2, v3, e, Kd.R_mono (Kd.R_bound r2) (fun k hk => ⟨hk.1, hk.2.1, hk.2.2.1⟩), Kd.R_mono (Kd.R_bound r3) (fun k hk => ⟨hk.1, hk.2.1, hk.2.2.1⟩)⟩
theorem own_row30 {w : World} {base : Nat} {ok : Nat → Prop} {v : Value} {xs : List S30} (h : k30.R 30 w base ok v xs) (k : Nat) (hk : v.ownBlock = some k) : base ≤ k ∧ k < w.heap.size ∧ ok k ∧ ∃ cs, w.heap[k]? = some (.cells cs 30 (0, 0)) := by
  obtain ⟨h0, inner, ho, hr⟩ := h
  exact ⟨own_base ho k hk, own_lt ho k hk, h0 k hk, own_typed ho k hk⟩
theorem all_box (kf : Nat) (w : World) (B : Nat) (ok : Nat → Prop) (g c cap : Nat) (ms : List S30) (hB : Box w B ok g c cap ms) (hBw : B ≤ w.heap.size) (hf : ∀ m, m ∈ ms → mail_twin.f kf m.f0 m.f1 m.f2 m.f3 = some (m.f0, m.f1, m.f2, m.f3)) :
    Calls Try.prog 15 #[.pointer (some ⟨g, 0, none⟩)] w fun e w' => ∃ v S, e = .returned v ∧ Box w' B S g c cap ms ∧ k30.R 30 w' w.heap.size (fun k => ¬ S k) v ms ∧ But c w w' := by
  have HBX := Aside0.mk hB.bound
  have hlen := hB.2.1
  have hcap := hB.2.2.1
  have HF := Aside0.mk hf
  have HBw := Aside0.mk hBw
  clear hf hBw
  go_enter Try.func15, Try.ntmps15
  go_wp2_with (first | ((with_reducible refine gate_callee (f := 18) rfl ?_); refine goesL_ (some 7) rfl rfl Try.func18 (by kernel_rfl) rfl #[.pointer (some ⟨g, 0, none⟩)] rfl (by (try simp only [List.map_toArray, List.map_cons, List.map_nil]); first | done | rfl) ?_; refine (len_box w B _ g c cap ms HBX.out).mono ?_; rintro e w1 ⟨rfl, hb⟩; refine ⟨_, rfl, ?_⟩; have HB0 := Aside0.mk hb; clear hb))
  have HBX1 := Aside0.mk (HBX.out.below HB0.out)
  clear HBX
  go_loopg [3, 8] (ms.length + 1) (fun kq v3 v8 w' => ∃ (i : Nat) (S : Nat → Prop), v8 = .int .i64 (i : Int) ∧ Aside0 (i + kq = ms.length + 1) ∧ Aside0 (i ≤ ms.length) ∧ Aside0 (∀ k, S k → k < w'.heap.size) ∧ Aside0 (Box w' B S g c cap (ms.drop i ++ ms.take i)) ∧ Aside0 (k30.R 30 w' w.heap.size (fun k => ¬ S k) v3 (ms.take i)) ∧ Aside0 (But c w w'))
  case atStart =>
    have h0 := HBX1.out.bound
    exact ⟨0, fun k => (ok k ∧ B ≤ k ∧ k < w.heap.size) ∧ B ≤ k ∧ k < w1.heap.size, rfl, ⟨by omega⟩, ⟨by omega⟩, ⟨fun k hk => hk.2.2⟩, ⟨by rw [List.drop_zero, List.take_zero, List.append_nil]; exact h0⟩, ⟨by rw [List.take_zero]; exact Kd.R_nil _ _ _ _ _⟩, ⟨But.of_below HB0.out⟩⟩
  case round =>
    obtain ⟨i, S, rfl, HK, HI, HS, HX, HR, HBT⟩ := hrel
    by_cases hi : i < ms.length
    · have hcut : ms.drop i ++ ms.take i = ms[i] :: (ms.drop (i + 1) ++ ms.take i) := by rw [List.drop_eq_getElem_cons hi, List.cons_append]
      rw [hcut] at HX
      clear hcut
      have cb : decide ((i : Int) < (ms.length : Int)) = true := decide_eq_true (by omega)
      have HBw1 := Aside0.mk (Nat.le_trans HBw.out HBT.out.size)
      obtain ⟨buf, s, r, hch⟩ := HX.out.chan
      have HC := Aside0.mk hch
      clear hch
      go_wp2_with (first
        | ((with_reducible refine gate_callee (f := 11) rfl ?_); refine goesL_ (some 12) rfl rfl Try.func11 (by kernel_rfl) rfl #[.pointer (some ⟨g, 0, none⟩)] rfl (by (try simp only [List.map_toArray, List.map_cons, List.map_nil]); first | done | rfl) ?_; refine (take_some wr B S g c cap ms[i] (ms.drop (i + 1) ++ ms.take i) HX.out HBw1.out).mono ?_; rintro e w2 ⟨v, rfl, hM, hX, hb⟩; refine ⟨_, rfl, ?_⟩; obtain ⟨v2, v3, rfl, r2, r3⟩ := hM; obtain ⟨A2, c2, rfl, l2, _⟩ := Kd.R_reads r2; obtain ⟨A3, c3, rfl, l3, _⟩ := Kd.R_reads r3; have HX2 := Aside0.mk hX; have R22 := Aside0.mk r2; have R23 := Aside0.mk r3; have L2 := Aside0.mk l2; have L3 := Aside0.mk l3; have BT2 := Aside0.mk hb; have HR2 := Aside0.mk (R_but HR.out HC.out hb); clear hX r2 r3 l2 l3 hb)
        | ((with_reducible refine gate_store (t := 30) (p := 4) (v := .tmp 13) rfl ?_); refine store30 (seg := [.int .i64 (ms[i]).f0, .string (ms[i]).f1, .slice A2 (ms[i]).f2.length c2, .slice A3 (ms[i]).f3.length c3]) rfl rfl rfl rfl rfl rfl rfl (by simp [Value.oneCell']) (heap_alloc_new w2 _) rfl ?_; intro w3 ho3 hn3; have q0 := (blk_cell hn3 0).trans rfl; have q1 := (blk_cell hn3 1).trans rfl; have q2 := (blk_cell hn3 2).trans rfl; have q3 := (blk_cell hn3 3).trans rfl; simp only [List.getElem?_toArray, List.getElem?_cons_zero, List.getElem?_cons_succ] at q0 q1 q2 q3; have hb3 := only_new ho3; have BK3 := Aside0.mk hn3; have HX3 := Aside0.mk (HX2.out.below hb3); have R32 := Aside0.mk (Kd.R_below R22.out hb3); have R33 := Aside0.mk (Kd.R_below R23.out hb3); have HR3 := Aside0.mk (Kd.R_below HR2.out hb3); have BT3 := Aside0.mk (BT2.out.trans (But.of_below hb3)); have SZ3 := Aside0.mk (show w2.heap.size < w3.heap.size from blk_lt hn3); have WS := Aside0.mk (Nat.le_trans HBT.out.size BT3.out.size); clear ho3 hn3 hb3)
        | ((with_reducible refine gate_callee (f := 22) rfl ?_); refine goesL_ (some 17) rfl rfl Try.func22 (by kernel_rfl) rfl #[.agg #[.int .i64 (ms[i]).f0, .string (ms[i]).f1, .slice A2 (ms[i]).f2.length c2, .slice A3 (ms[i]).f3.length c3]] rfl (by (try simp only [List.map_toArray, List.map_cons, List.map_nil]); first | done | rfl) ?_; refine (mail_twin.calls kf (ms[i]).f0 (ms[i]).f1 A2 c2 (ms[i]).f2 A3 c3 (ms[i]).f3 _ _ _ _ _ (Kd.R_reads' R32.out).2.2 L2.out (Kd.R_reads' R33.out).2.2 L3.out (HF.out _ (List.getElem_mem hi))).mono ?_; rintro e w4 ⟨t2, t3, rfl, s2, s3, hb⟩; refine ⟨_, rfl, ?_⟩; clear q0 q1 q2 q3; have T2 := Aside0.mk (Kd.R_lower (Kd.R_mono (Kd.R_bound (Kd.S_R s2)) (ok' := fun k => w3.heap.size ≤ k ∧ k < w4.heap.size) (fun k hk => ⟨hk.2.1, hk.2.2.1⟩)) WS.out); have T3 := Aside0.mk (Kd.R_lower (Kd.R_mono (Kd.R_bound (Kd.S_R s3)) (ok' := fun k => w3.heap.size ≤ k ∧ k < w4.heap.size) (fun k hk => ⟨hk.2.1, hk.2.2.1⟩)) WS.out); have BK4 := Aside0.mk (blk_below BK3.out hb); have HX4 := Aside0.mk (HX3.out.below hb); have R42 := Aside0.mk (Kd.R_below R32.out hb); have R43 := Aside0.mk (Kd.R_below R33.out hb); have HR4 := Aside0.mk (Kd.R_below HR3.out hb); have BT4 := Aside0.mk (BT3.out.trans (But.of_below hb)); have SZ4 := Aside0.mk hb.size; obtain ⟨B2, d2, rfl, _, _⟩ := Kd.R_reads T2.out; obtain ⟨B3, d3, rfl, _, _⟩ := Kd.R_reads T3.out; clear hb s2 s3)
        | ((with_reducible refine gate_builtin (b := .append) (xs := #[.tmp 15, .tmp 18]) rfl ?_); at_builtin; refine Kd.R_append k30 (w0 := w4) w.heap.size rfl (.tmp 15) (.tmp 18) 38 30 z30v 72 rfl Try.underlying38 info30 rfl (by decide) (by omega) u3 (ms.take i) ms[i] [.int .i64 (ms[i]).f0, .string (ms[i]).f1, .slice B2 (ms[i]).f2.length d2, .slice B3 (ms[i]).f3.length d3] (fun k => ¬ S k) (fun k => w3.heap.size ≤ k ∧ k < w4.heap.size) rfl rfl (k30_mkM _ _ _ ms[i] T2.out T3.out) ?aK ?aF HR4.out (Below.refl _ _) ?aS ?aL ?_))
      case aK => exact fun k hk => ⟨fun hs => by have := HS.out k hs; have := BT2.out.size; have := SZ3.out; omega, fun e => by have := (own_row30 HR.out k e.symm).2.1; have := BT2.out.size; have := SZ3.out; omega⟩
      case aF => exact fun k hk hs => by have := HS.out k hs; have := BT2.out.size; have := SZ3.out; have := SZ4.out; omega
      case aS => exact Nat.le_trans WS.out SZ4.out
      case aL => rw [List.length_take]; omega
      intro v5 w5 hR5 hB5 hg5 hat5
      have HR5 := Aside0.mk hR5
      have SZ5 := Aside0.mk (Nat.le_trans SZ4.out hg5.size)
      obtain ⟨x1, x2, x3, x4⟩ := HX.out.at_
      have hz := BT2.out.size
      have hz4 := Nat.le_trans (Nat.le_of_lt SZ3.out) SZ4.out
      have hne : ∀ k, (∃ cs, wr.heap[k]? = some (.cells cs 30 (0, 0))) ∧ ¬ S k ∧ k < wr.heap.size ∨ some k ≠ u3.ownBlock := fun k => by
        by_cases e : u3.ownBlock = some k
        · obtain ⟨o1, o2, o3, o4⟩ := own_row30 HR.out k e
          exact Or.inl ⟨o4, o3, o2⟩
        · exact Or.inr (fun h => e h.symm)
      have HX5 := Aside0.mk (HX4.out.step (w' := w5) (hg5.block g (by omega) (by
        rcases hne g with ⟨⟨cs, h1⟩, _⟩ | h
        · rw [x4] at h1; cases h1
        · exact h)) (hg5.block c (by omega) (by
        rcases hne c with ⟨⟨cs, h1⟩, _⟩ | h
        · rw [HC.out] at h1; cases h1
        · exact h)) (fun k hs _ hk => hg5.block k hk (by
        rcases hne k with ⟨_, h2, _⟩ | h
        · exact absurd hs h2
        · exact h)))
      have hrow : ∀ k, S k → some k ≠ u3.ownBlock := fun k hs => by
        rcases hne k with ⟨_, h2, _⟩ | h
        · exact absurd hs h2
        · exact h
      have R52 := Aside0.mk (Kd.R_grown R42.out hg5 hrow)
      have R53 := Aside0.mk (Kd.R_grown R43.out hg5 hrow)
      have hgb : w5.heap[w2.heap.size]? = some (.cells #[.int .i64 (ms[i]).f0, .string (ms[i]).f1, .slice A2 (ms[i]).f2.length c2, .slice A3 (ms[i]).f3.length c3] 30) := (hg5.block _ (by have := SZ3.out; have := SZ4.out; omega) (by
        rcases hne w2.heap.size with ⟨_, _, h3⟩ | h
        · omega
        · exact h)).trans BK4.out
      have q0 := (blk_cell hgb 0).trans rfl
      have q1 := (blk_cell hgb 1).trans rfl
      have q2 := (blk_cell hgb 2).trans rfl
      have q3 := (blk_cell hgb 3).trans rfl
      simp only [List.getElem?_toArray, List.getElem?_cons_zero, List.getElem?_cons_succ] at q0 q1 q2 q3
      have BT5 := Aside0.mk (show But c w w5 from ⟨hB5.os.trans (HBT.out.trans BT4.out).os, hB5.tape.trans (HBT.out.trans BT4.out).tape, hB5.output.trans (HBT.out.trans BT4.out).output, Nat.le_trans (HBT.out.trans BT4.out).size hg5.size, fun k hk hc => (hB5.block k hk).trans ((HBT.out.trans BT4.out).block k hk hc)⟩)
      clear hR5 hB5 hg5 hat5 x1 x2 x3 x4 hz hz4 hne hrow hgb
      go_wp2_with (first
        | ((with_reducible refine gate_callee (f := 16) rfl ?_); refine goesL_ (some 22) rfl rfl Try.func16 (by kernel_rfl) rfl #[.pointer (some ⟨g, 0, none⟩), .agg #[.int .i64 (ms[i]).f0, .string (ms[i]).f1, .slice A2 (ms[i]).f2.length c2, .slice A3 (ms[i]).f3.length c3]] rfl (by (try simp only [List.map_toArray, List.map_cons, List.map_nil]); first | done | rfl) ?_; refine (offer kf w5 B S g c cap (ms.drop (i + 1) ++ ms.take i) ms[i] A2 A3 c2 c3 (Kd.R_reads' R52.out).2.2 L2.out (Kd.R_reads' R53.out).2.2 L3.out HX5.out (Nat.le_trans HBw.out (Nat.le_trans WS.out SZ5.out)) (HF.out _ (List.getElem_mem hi))).mono ?_; rintro e w6 ⟨rfl, hX6, hb6⟩; refine ⟨_, rfl, ?_⟩))
      have hlr : (ms.drop (i + 1) ++ ms.take i).length < cap := by have := HX.out.2.1; rw [List.length_cons] at this; omega
      rw [show offered cap (ms.drop (i + 1) ++ ms.take i) ms[i] = ms.drop (i + 1) ++ ms.take (i + 1) by unfold offered; rw [if_pos hlr, List.append_assoc, ← List.take_append_getElem hi]] at hX6
      have HX6 := Aside0.mk hX6
      obtain ⟨buf5, s5, r5, hc5⟩ := HX5.out.chan
      have HR6 := Aside0.mk (R_but (Kd.R_mono (ok' := fun k => ¬ S k ∧ k < w5.heap.size) (Kd.R_bound HR5.out) (fun k hk => ⟨hk.1, hk.2.2.1⟩)) hc5 hb6)
      have BT6 := Aside0.mk (BT5.out.trans hb6)
      clear hX6 hb6 hc5 hlr
      go_roundg (gk - 1)
      case measure => have := HK.out; omega
      case rel => exact ⟨i + 1, fun k => (S k ∨ w5.heap.size ≤ k) ∧ B ≤ k ∧ k < w6.heap.size, congrArg (Value.int .i64) (Int.natCast_add i 1).symm, ⟨by have := HK.out; omega⟩, ⟨by omega⟩, ⟨fun k hk => hk.2.2⟩, ⟨HX6.out.bound⟩, ⟨Kd.R_mono HR6.out (fun k hk h => by
        rcases h.1 with h1 | h1
        · exact hk.1 h1
        · have := hk.2; omega)⟩, BT6⟩
    · have hin : i = ms.length := by have := HI.out; omega
      subst hin
      have cb : decide ((ms.length : Int) < (ms.length : Int)) = false := decide_eq_false (by omega)
      go_wp2
      go_ret
      exact ⟨_, S, rfl, by have := HX.out; rw [List.drop_length, List.take_length, List.nil_append] at this; exact this, by have := HR.out; rw [List.take_length] at this; exact this, HBT.out⟩
end Go.Proofs.Ythbcekjiljkchaa.XM
namespace Go.Proofs.Ythbcekjiljkchaa.XM
open Go.RowKit Go.Conc Go.Proofs.YthbcekjiljkchaaW.PrintWords Go.Proofs.YthbcekjiljkchaaW.PrintLast Go.Proofs.YthbcekjiljkchaaW.PrintMore Go.Proofs.Ythbcekjiljkchaa.Comm
set_option linter.unusedVariables false
set_option linter.unusedSimpArgs false
def msg (i : Int) : S30 := ⟨i, ⟨#[]⟩, [], []⟩
theorem tw (i : Int) : mail_twin.f 1 i ⟨#[]⟩ [] [] = some (i, ⟨#[]⟩, [], []) := by simp [mail_twin.f, value_Twin.f, value_Twin.l0]
theorem tw23 : ∀ m, m ∈ [msg 2, msg 3] → mail_twin.f 1 m.f0 m.f1 m.f2 m.f3 = some (m.f0, m.f1, m.f2, m.f3) := by
  intro m hm
  rcases List.mem_cons.1 hm with rfl | hm
  · exact tw 2
  rcases List.mem_cons.1 hm with rfl | hm
  · exact tw 3
  · cases hm
theorem But.to_below {c : Nat} {w w' : World} (h : But c w w') (hc : w.heap.size ≤ c) : Below w.heap.size w w' := h.below hc (Nat.le_refl _)
set_option maxHeartbeats 1000000 in
theorem awake_calls (w : World) : Calls Try.prog 7 #[] w fun e w' => e = .returned (.bool true) ∧ Below w.heap.size w w' := by
  have a1 : room 2 [] = true := rfl
  have a2 : room 2 [msg 1] = true := rfl
  have a3 : room 2 [msg 1, msg 2] = false := rfl
  have a4 : room 2 [msg 2] = true := rfl
  go_enter Try.func7, Try.ntmps7
  go_wp2_with (first
    | (go_at_call 8; refine calls_of_args (args' := #[.int .i64 2]) (by first | rfl) ?_; refine (new_box w 2).mono ?_; rintro e w1 ⟨g, c, rfl, hX, hb⟩; have HX1 := Aside0.mk (show Box w1 w.heap.size _ g c 2 [] from hX); have BT1 := Aside0.mk (But.of_below (c := c) hb); have HC := Aside0.mk hX.1; clear hX hb)
    | (go_at_call 16; refine calls_of_args (args' := #[.pointer (some ⟨g, 0, none⟩), .agg #[.int .i64 1, .string ⟨#[]⟩, .slice none 0 0, .slice none 0 0]]) (by first | rfl) ?_; refine (offer 1 _ w.heap.size _ g c 2 [] (msg 1) none none 0 0 (Kd.C_nil _ _) (Nat.le_refl _) (Kd.C_nil _ _) (Nat.le_refl _) HX1.out BT1.out.size (tw 1)).mono ?_; rintro e w2 ⟨rfl, hX, hb⟩; have HX2 := Aside0.mk (show Box _ w.heap.size _ g c 2 [msg 1] from hX); have BT2 := Aside0.mk (BT1.out.trans hb); clear hX hb HX1 BT1)
    | (go_at_call 16; refine calls_of_args (args' := #[.pointer (some ⟨g, 0, none⟩), .agg #[.int .i64 2, .string ⟨#[]⟩, .slice none 0 0, .slice none 0 0]]) (by first | rfl) ?_; refine (offer 1 _ w.heap.size _ g c 2 [msg 1] (msg 2) none none 0 0 (Kd.C_nil _ _) (Nat.le_refl _) (Kd.C_nil _ _) (Nat.le_refl _) HX2.out BT2.out.size (tw 2)).mono ?_; rintro e w3 ⟨rfl, hX, hb⟩; have HX3 := Aside0.mk (show Box _ w.heap.size _ g c 2 [msg 1, msg 2] from hX); have BT3 := Aside0.mk (BT2.out.trans hb); clear hX hb HX2 BT2)
    | (go_at_call 16; refine calls_of_args (args' := #[.pointer (some ⟨g, 0, none⟩), .agg #[.int .i64 3, .string ⟨#[]⟩, .slice none 0 0, .slice none 0 0]]) (by first | rfl) ?_; refine (offer 1 _ w.heap.size _ g c 2 [msg 1, msg 2] (msg 3) none none 0 0 (Kd.C_nil _ _) (Nat.le_refl _) (Kd.C_nil _ _) (Nat.le_refl _) HX3.out BT3.out.size (tw 3)).mono ?_; rintro e w4 ⟨rfl, hX, hb⟩; have HX4 := Aside0.mk (show Box _ w.heap.size _ g c 2 [msg 1, msg 2] from hX); have BT4 := Aside0.mk (BT3.out.trans hb); clear hX hb HX3 BT3)
    | (go_at_call 11; refine calls_of_args (args' := #[.pointer (some ⟨g, 0, none⟩)]) (by first | rfl) ?_; refine (take_some _ w.heap.size _ g c 2 (msg 1) [msg 2] HX4.out BT4.out.size).mono ?_; rintro e w5 ⟨v, rfl, hM, hX, hb⟩; obtain ⟨v2, v3, rfl, r2, r3⟩ := hM; obtain ⟨A2, c2, rfl, l2, _⟩ := Kd.R_reads r2; obtain ⟨A3, c3, rfl, l3, _⟩ := Kd.R_reads r3; have HX5 := Aside0.mk hX; have BT5 := Aside0.mk (BT4.out.trans hb); clear hX hb HX4 BT4 r2 r3 l2 l3)
    | ((with_reducible refine gate_store (t := 30) (p := 5) (v := .tmp 22) rfl ?_); refine store30 (seg := [.int .i64 1, .string ⟨#[]⟩, .slice A2 0 c2, .slice A3 0 c3]) rfl rfl rfl rfl rfl rfl rfl (by simp [Value.oneCell']) (heap_alloc_new w5 _) rfl ?_; intro w6 ho6 hn6; have hb6 := only_new ho6; have BK6 := Aside0.mk hn6; have HX6 := Aside0.mk (HX5.out.below hb6); have BT6 := Aside0.mk (BT5.out.trans (But.of_below hb6)); clear ho6 hn6 hb6 HX5 BT5)
    | (go_at_call 16; refine calls_of_args (args' := #[.pointer (some ⟨g, 0, none⟩), .agg #[.int .i64 3, .string ⟨#[]⟩, .slice none 0 0, .slice none 0 0]]) (by first | rfl) ?_; refine (offer 1 _ w.heap.size _ g c 2 [msg 2] (msg 3) none none 0 0 (Kd.C_nil _ _) (Nat.le_refl _) (Kd.C_nil _ _) (Nat.le_refl _) HX6.out BT6.out.size (tw 3)).mono ?_; rintro e w7 ⟨rfl, hX, hb⟩; have BK7 := Aside0.mk ((hb.block _ (blk_lt BK6.out) (by obtain ⟨buf, s, r, h⟩ := HX6.out.chan; intro e; rw [← e, BK6.out] at h; cases h)).trans BK6.out); have HX7 := Aside0.mk (show Box _ w.heap.size _ g c 2 [msg 2, msg 3] from hX); have BT7 := Aside0.mk (BT6.out.trans hb); clear hX hb HX6 BT6)
    | (go_at_call 15; refine calls_of_args (args' := #[.pointer (some ⟨g, 0, none⟩)]) (by first | rfl) ?_; refine (all_box 1 _ w.heap.size _ g c 2 [msg 2, msg 3] HX7.out BT7.out.size tw23).mono ?_; rintro e w8 ⟨v8, S, rfl, hX, hR, hb⟩; obtain ⟨A8, c8, rfl, l8, hC8⟩ := Kd.R_reads hR; obtain ⟨ad, X2, x2, X3, x3, e, p0, _⟩ := at_T30 hC8 0 (by decide) (by decide); cases e; obtain ⟨ad', Y2, y2, Y3, y3, e, p1, _⟩ := at_T30 hC8 1 (by decide) (by decide); cases e; obtain ⟨b8, rfl⟩ := Kd.R_head hR; have p0' : w8.cell? ⟨b8, 0, none⟩ = some (.int .i64 2) := p0; have p1' : w8.cell? ⟨b8, 4, none⟩ = some (.int .i64 3) := p1; clear p0 p1; have HX8 := Aside0.mk hX; have BT8 := Aside0.mk (BT7.out.trans hb); obtain ⟨buf, s, r, hch⟩ := HX7.out.chan; have q0 := (blk_cell ((hb.block _ (blk_lt BK7.out) (by intro e; rw [← e, BK7.out] at hch; cases hch)).trans BK7.out) 0).trans rfl; simp only [List.getElem?_toArray, List.getElem?_cons_zero] at q0; clear hch))
  go_ret
  exact ⟨rfl, BT8.out.to_below HC.out⟩
end Go.Proofs.Ythbcekjiljkchaa.XM
namespace Go.Proofs.Ythbcekjiljkchaa.Open
open Go.RowKit Go.Proofs.YthbcekjiljkchaaW.PrintWords
set_option linter.unusedVariables false
theorem add_add (a : Addr) (m j : Nat) : (a.add m).add j = a.add (m + j) := by
  unfold Addr.add
  by_cases hm : m = 0 <;> by_cases hj : j = 0 <;> simp [hm, hj, Nat.add_assoc]
/-- Whatever reads as data of type t, with rounds up to n and all its weights within the reach, is a value of the kind k that meets G. -/
def Opens {α : Type} (n : Nat) (P : Program) (t : TypeId) (k : Kd α) (G : α → Prop) : Prop :=
  ∀ (H : Type) (enc : TypeId × Value → H) (w : World) (sp : Nat → Bool) (held : Bool) (fuel : Nat) (cs : List Value) (x : DataW H × List MemPlace), fuel ≤ n →
    DataW.trod enc P w 0 sp held fuel t cs = some x → (∀ b ∈ x.1.weights P t, b ≤ reachBytes) → ∃ v, k.K w v cs ∧ G v
theorem Opens.imp {α : Type} {n : Nat} {P : Program} {t : TypeId} {k : Kd α} {G G' : α → Prop} (h : Opens n P t k G) (hg : ∀ v, G v → G' v) : Opens n P t k G' := by
  intro H enc w sp held fuel cs x hf ht hw
  obtain ⟨v, hk, hv⟩ := h H enc w sp held fuel cs x hf ht hw
  exact ⟨v, hk, hg v hv⟩
theorem Opens.zero {α : Type} {P : Program} {t : TypeId} {k : Kd α} {G : α → Prop} : Opens 0 P t k G := by
  intro H enc w sp held fuel cs x hf ht hw
  obtain rfl : fuel = 0 := by omega
  simp [DataW.trod] at ht
theorem opens_int {n : Nat} {P : Program} {t : TypeId} {k : IntKind} (hu : P.underlying t = some (.int k)) : Opens n P t (Kd.int k) (fun v => (Lit.int k v).wf = true) := by
  intro H enc w sp held fuel cs x hf ht hw
  obtain ⟨m, rfl, rfl, h⟩ := DataW.trod_int hu ht
  exact ⟨m, rfl, h⟩
theorem opens_string {n : Nat} {P : Program} {t : TypeId} (hu : P.underlying t = some .string) : Opens n P t Kd.string (fun s => s.size ≤ 140737488351232) := by
  intro H enc w sp held fuel cs x hf ht hw
  obtain ⟨s, rfl, rfl, hm⟩ := DataW.trod_string hu ht
  refine ⟨s, rfl, ?_⟩
  have := hw s.data.toList.length (by simp [DataW.weights])
  simpa [reachBytes] using this
theorem weights_all_mem {H : Type} {P : Program} {e : TypeId} : ∀ {ds : List (DataW H)} {i : Nat} {d : DataW H}, ds[i]? = some d → ∀ b ∈ d.weights P e, b ∈ DataW.weightsAll P e ds
  | d0 :: ds, 0, d, h, b, hb => by
    simp only [List.getElem?_cons_zero, Option.some.injEq] at h
    subst h
    simp only [DataW.weightsAll, List.mem_append]
    exact Or.inl hb
  | d0 :: ds, i + 1, d, h, b, hb => by
    simp only [List.getElem?_cons_succ] at h
    simp only [DataW.weightsAll, List.mem_append]
    exact Or.inr (weights_all_mem h b hb)
  | [], _, _, h, _, _ => by simp at h
/-- A slice: its elements each, and its bytes. -/
theorem opens_slice {α : Type} {n : Nat} {P : Program} {t e : TypeId} {k : Kd α} {G : α → Prop} (hu : P.underlying t = some (.slice e)) (hc : P.cellsOf e = k.sz) (h : Opens n P e k G) :
    Opens (n + 1) P t (Kd.slice e k) (fun xs => xs.length * P.bytesOf e ≤ 140737488351232 ∧ xs.length ≤ maxLen ∧ ∀ v ∈ xs, G v) := by
  intro H enc w sp held fuel cs x hf ht hw
  rcases DataW.trod_slice hu ht with ⟨rfl, rfl⟩ | ⟨a, len, cap, elems, rest, m, rfl, rfl, rfl, _, hl, hm, hel, hall, _, _⟩
  · exact ⟨[], ⟨none, 0, rfl, Nat.le_refl _, rfl, by simp, fun h => absurd h (by simp)⟩, by simp, by simp, by simp⟩
  · have each : ∀ i, i < len → ∃ v, G v ∧ ∃ c, k.K w v c ∧ ∀ j u, c[j]? = some u → w.cell? (a.add (i * k.sz + j)) = some u := by
      intro i hi
      have h1 := hall i hi
      have hi' : i < elems.length := by omega
      rw [List.getElem?_eq_getElem hi'] at h1
      obtain ⟨c, hcs, htr⟩ := Option.bind_eq_some_iff.1 h1
      have hget : (elems.map (·.1))[i]? = some elems[i].1 := by simp [hi']
      obtain ⟨v, hk, hv⟩ := h H enc w sp held m c elems[i] (by omega) htr (fun b hb => hw b (by
        simp only [DataW.weights, hu, List.mem_cons, List.mem_append]
        exact Or.inr (Or.inl (weights_all_mem hget b hb))))
      refine ⟨v, hv, c, hk, fun j u hj => ?_⟩
      obtain ⟨_, hl2, hcell⟩ := World.cells?_some hcs
      have hjl : j < c.length := (List.getElem?_eq_some_iff.1 hj).1
      have := hcell j (by omega)
      rw [hj, add_add, hc] at this
      exact this
    have key : ∀ m, m ≤ len → ∃ vs : List α, vs.length = m ∧ (∀ v ∈ vs, G v) ∧ ∀ j p, vs[j]? = some p → ∃ c, k.K w p c ∧ ∀ i u, c[i]? = some u → w.cell? (a.add (j * k.sz + i)) = some u := by
      intro m
      induction m with
      | zero => exact fun _ => ⟨[], rfl, by simp, by simp⟩
      | succ m ih =>
        intro hle
        obtain ⟨vs, hvl, hvg, hvc⟩ := ih (by omega)
        obtain ⟨v, hg, c, hk, hcell⟩ := each m (by omega)
        refine ⟨vs ++ [v], by simp [hvl], fun y hy => ?_, fun j p hp => ?_⟩
        · rcases List.mem_append.1 hy with hy | hy
          · exact hvg y hy
          · rw [List.mem_singleton.1 hy]; exact hg
        · rcases Nat.lt_or_ge j vs.length with hj | hj
          · rw [List.getElem?_append_left hj] at hp
            exact hvc j p hp
          · have : j < (vs ++ [v]).length := (List.getElem?_eq_some_iff.1 hp).1
            have hjm : j = vs.length := by simp at this; omega
            subst hjm
            have hq : v = p := by simpa using hp
            subst hq
            rw [hvl]
            exact ⟨c, hk, hcell⟩
    obtain ⟨vs, hvl, hvg, hvc⟩ := key len (Nat.le_refl _)
    refine ⟨vs, ⟨some a, cap, by rw [hvl], by omega, hvl ▸ rfl, by rw [hvl]; simp only [maxLen] at hm; omega, fun _ => ⟨a, rfl, fun j p hp => ?_⟩⟩, ?_, by omega, hvg⟩
    · obtain ⟨c, hk, hcell⟩ := hvc j p hp
      exact ⟨c, k.K_len hk, hk, hcell⟩
    · have hw1 := hw ((elems.length + rest.length) * P.bytesOf e) (by simp [DataW.weights, hu])
      have hw2 : vs.length * P.bytesOf e ≤ (elems.length + rest.length) * P.bytesOf e := Nat.mul_le_mul_right _ (by omega)
      simp only [reachBytes] at hw1
      omega
/-- Fields in line, from the offset on. -/
def OpensF {α : Type} (n : Nat) (P : Program) (off : Nat) (fs : List Field) (k : Kd α) (G : α → Prop) : Prop :=
  ∀ (H : Type) (enc : TypeId × Value → H) (w : World) (sp : Nat → Bool) (held : Bool) (fuel : Nat) (cs : List Value) (xs : List (DataW H × List MemPlace)), fuel ≤ n → cs.length = off + k.sz → xs.length = fs.length →
    (∀ (i : Nat) (f : Field), fs[i]? = some f → DataW.trod enc P w 0 sp held fuel f.type ((cs.drop f.offset).take (P.cellsOf f.type)) = xs[i]?) →
    (∀ b ∈ DataW.weightsEach P (fs.map Field.type) (xs.map (·.1)), b ≤ reachBytes) → ∃ v, k.K w v (cs.drop off) ∧ G v
theorem OpensF.last {α : Type} {n : Nat} {P : Program} {off : Nat} {f : Field} {k : Kd α} {G : α → Prop} (ho : f.offset = off) (hc : P.cellsOf f.type = k.sz) (h : Opens n P f.type k G) : OpensF n P off [f] k G := by
  intro H enc w sp held fuel cs xs hf hl hxl hall hw
  match xs, hxl with
  | [x], _ =>
    have h1 := hall 0 f rfl
    rw [ho, hc, List.take_of_length_le (by rw [List.length_drop]; omega)] at h1
    exact h H enc w sp held fuel _ x hf h1 (fun b hb => hw b (by simpa [DataW.weightsEach] using hb))
theorem OpensF.cons {α β : Type} {n : Nat} {P : Program} {off : Nat} {f : Field} {fs : List Field} {k : Kd α} {k' : Kd β} {G : α → Prop} {G' : β → Prop} (ho : f.offset = off) (hc : P.cellsOf f.type = k.sz)
    (h : Opens n P f.type k G) (h' : OpensF n P (off + k.sz) fs k' G') : OpensF n P off (f :: fs) (Kd.pair k k') (fun v => G v.1 ∧ G' v.2) := by
  intro H enc w sp held fuel cs xs hf hl hxl hall hw
  match xs, hxl with
  | x :: xs, hxl =>
    have hl' : cs.length = off + (k.sz + k'.sz) := hl
    have h1 := hall 0 f rfl
    rw [ho, hc] at h1
    obtain ⟨v, hk, hg⟩ := h H enc w sp held fuel _ x hf h1 (fun b hb => hw b (by simp only [List.map_cons, DataW.weightsEach, List.mem_append]; exact Or.inl hb))
    obtain ⟨v', hk', hg'⟩ := h' H enc w sp held fuel cs xs hf (by omega) (by simpa using hxl) (fun i g hi => by simpa using hall (i + 1) g (by simpa using hi)) (fun b hb => hw b (by simp only [List.map_cons, DataW.weightsEach, List.mem_append]; exact Or.inr hb))
    refine ⟨(v, v'), ⟨_, _, ?_, hk, hk'⟩, hg, hg'⟩
    rw [← List.drop_drop]
    exact (List.take_append_drop _ _).symm
/-- A struct, as a Lean structure of its own: f tells its fields, g makes it. -/
theorem opens_struct {α β : Type} {n : Nat} {P : Program} {t : TypeId} {fs : Array Field} {k : Kd α} {G : α → Prop} (f : β → α) (g : α → β) (hfg : ∀ x, f (g x) = x) (hu : P.underlying t = some (.struct fs)) (hc : P.cellsOf t = k.sz)
    (h : OpensF n P 0 fs.toList k G) : Opens (n + 1) P t (Kd.iso k f) (fun v => G (f v)) := by
  intro H enc w sp held fuel cs x hf ht hw
  obtain ⟨xs, m, rfl, rfl, hl, hxl, hall⟩ := DataW.trod_struct hu ht
  obtain ⟨v, hk, hg⟩ := h H enc w sp held m cs xs (by omega) (by rw [hl, hc]; omega) (by simpa using hxl) (fun i f hi => hall i f (by simpa using hi)) (fun b hb => hw b (by simpa [DataW.weights, hu] using hb))
  rw [List.drop_zero] at hk
  exact ⟨g v, by show k.K w (f (g v)) cs; rw [hfg]; exact hk, by show G (f (g v)); rw [hfg]; exact hg⟩
theorem opens_slice' {α : Type} {n : Nat} {P : Program} {t e : TypeId} {k : Kd α} {G : α → Prop} (hu : P.underlying t = some (.slice e)) (hc : P.cellsOf e = k.sz) (h : ∀ m, m < n → Opens m P e k G) :
    Opens n P t (Kd.slice e k) (fun xs => xs.length * P.bytesOf e ≤ 140737488351232 ∧ xs.length ≤ maxLen ∧ ∀ v ∈ xs, G v) := by
  cases n with
  | zero => exact Opens.zero
  | succ n => exact opens_slice hu hc (h n (by omega))
theorem opens_struct' {α β : Type} {n : Nat} {P : Program} {t : TypeId} {fs : Array Field} {k : Kd α} {G : α → Prop} (f : β → α) (g : α → β) (hfg : ∀ x, f (g x) = x) (hu : P.underlying t = some (.struct fs)) (hc : P.cellsOf t = k.sz)
    (h : ∀ m, m < n → OpensF m P 0 fs.toList k G) : Opens n P t (Kd.iso k f) (fun v => G (f v)) := by
  cases n with
  | zero => exact Opens.zero
  | succ n => exact opens_struct f g hfg hu hc (h n (by omega))
/-- A kind told otherwise. -/
theorem Opens.of {α β : Type} {n : Nat} {P : Program} {t : TypeId} {k : Kd α} {k' : Kd β} {G : α → Prop} {G' : β → Prop} (h : Opens n P t k G) (f : α → β) (hk : ∀ w v cs, k.K w v cs → k'.K w (f v) cs) (hg : ∀ v, G v → G' (f v)) : Opens n P t k' G' := by
  intro H enc w sp held fuel cs x hf ht hw
  obtain ⟨v, hkv, hv⟩ := h H enc w sp held fuel cs x hf ht hw
  exact ⟨f v, hk _ _ _ hkv, hg v hv⟩
theorem arg_weights {H : Type} {P : Program} {ts : List TypeId} {ds : List (DataW H)} (hsz : (DataW.weightsEach P ts ds).all (· ≤ reachBytes) = true) {j : Nat} {t : TypeId} {d : DataW H} (ht : ts[j]? = some t) (hd : ds[j]? = some d) : ∀ b ∈ d.weights P t, b ≤ reachBytes := by
  intro b hb
  simpa using List.all_eq_true.1 hsz _ (DataW.weights_mem_each ht hd b hb)
theorem Opens.arg {α : Type} {P : Program} {t : TypeId} {k : Kd α} {G : α → Prop} (h : ∀ n, Opens n P t k G) {H : Type} {enc : TypeId × Value → H} {w : World} {v : Value} {d : DataW H} {ps : List MemPlace}
    (ht : DataW.Trod enc P w 0 (fun _ => true) true t v d ps) (hw : ∀ b ∈ d.weights P t, b ≤ reachBytes) : ∃ x, k.K w x v.cells.toList ∧ G x := by
  obtain ⟨fuel, hf⟩ := ht
  exact h fuel H enc w _ _ fuel _ _ (Nat.le_refl _) hf hw
end Go.Proofs.Ythbcekjiljkchaa.Open
namespace Go.Proofs.Ythbcekjiljkchaa.XM
open Go.RowKit Go.Proofs.YthbcekjiljkchaaW.PrintWords Go.Proofs.Ythbcekjiljkchaa.Open
set_option linter.unusedVariables false
inductive G49 : S49 → Prop
  | mk {x : S49} (h0 : (Lit.int .i64 x.f0).wf = true) (h1 : (Lit.int .i64 x.f1).wf = true) (h2 : x.f2.size ≤ 140737488351232) (h3a : x.f3.length * Try.prog.bytesOf 2 ≤ 140737488351232) (h3b : x.f3.length ≤ maxLen) (h3 : ∀ y ∈ x.f3, (Lit.int .i64 y).wf = true) : G49 x
theorem opens_k49 (n : Nat) : Opens n Try.prog 49 k49 G49 := by
  refine Opens.of (opens_struct' (k := (Kd.pair (Kd.int .i64) (Kd.pair (Kd.int .i64) (Kd.pair Kd.string (Kd.slice 2 (Kd.int .i64)))))) id id (fun _ => rfl) Try.underlying49 (by kernel_rfl) (fun _ _ => (OpensF.cons rfl (by kernel_rfl) (opens_int Try.underlying3) (OpensF.cons rfl (by kernel_rfl) (opens_int Try.underlying2) (OpensF.cons rfl (by kernel_rfl) (opens_string Try.underlying9) (OpensF.last rfl (by kernel_rfl) (opens_slice' Try.underlying47 (by kernel_rfl) (fun _ _ => (opens_int Try.underlying2))))))))) (fun v => (⟨v.1, v.2.1, v.2.2.1, v.2.2.2⟩ : S49)) (fun _ _ _ h => h) ?_
  rintro ⟨v0, v1, v2, v3⟩ ⟨g0, g1, g2, g3⟩
  exact .mk g0 g1 g2 g3.1 g3.2.1 g3.2.2
inductive G30 : S30 → Prop
  | mk {x : S30} (h0 : (Lit.int .i64 x.f0).wf = true) (h1 : x.f1.size ≤ 140737488351232) (h2a : x.f2.length * Try.prog.bytesOf 49 ≤ 140737488351232) (h2b : x.f2.length ≤ maxLen) (h2 : ∀ y ∈ x.f2, G49 y) (h3a : x.f3.length * Try.prog.bytesOf 49 ≤ 140737488351232) (h3b : x.f3.length ≤ maxLen) (h3 : ∀ y ∈ x.f3, G49 y) : G30 x
theorem opens_k30 (n : Nat) : Opens n Try.prog 30 k30 G30 := by
  refine Opens.of (opens_struct' (k := (Kd.pair (Kd.int .i64) (Kd.pair Kd.string (Kd.pair (Kd.slice 49 k49) (Kd.slice 49 k49))))) id id (fun _ => rfl) Try.underlying30 (by kernel_rfl) (fun _ _ => (OpensF.cons rfl (by kernel_rfl) (opens_int Try.underlying2) (OpensF.cons rfl (by kernel_rfl) (opens_string Try.underlying9) (OpensF.cons rfl (by kernel_rfl) (opens_slice' Try.underlying28 (by kernel_rfl) (fun _ _ => (opens_k49 _))) (OpensF.last rfl (by kernel_rfl) (opens_slice' Try.underlying28 (by kernel_rfl) (fun _ _ => (opens_k49 _))))))))) (fun v => (⟨v.1, v.2.1, v.2.2.1, v.2.2.2⟩ : S30)) (fun _ _ _ h => h) ?_
  rintro ⟨v0, v1, v2, v3⟩ ⟨g0, g1, g2, g3⟩
  exact .mk g0 g1 g2.1 g2.2.1 g2.2.2 g3.1 g3.2.1 g3.2.2
end Go.Proofs.Ythbcekjiljkchaa.XM
namespace Go.Proofs.Ythbcekjiljkchaa.XM
open Go.RowKit Go.Proofs.YthbcekjiljkchaaW.PrintWords Go.Proofs.YthbcekjiljkchaaW.PrintLast Go.Proofs.YthbcekjiljkchaaW.PrintMore
set_option linter.unusedVariables false
set_option linter.unusedSimpArgs false
theorem bytes2 : Try.prog.bytesOf 2 = 8 := by kernel_rfl
def shortM (x : S30) : Bool := decide (x.f2.length ≤ 30 ∧ x.f3.length ≤ 30)
theorem okV_of {l : List S49} (h : ∀ y ∈ l, G49 y) (hs : l.length ≤ 30) : OkV l := ⟨hs, fun v hv => by
  obtain ⟨h0, h1, h2, h3a, h3b, h3⟩ := h v hv
  rw [bytes2] at h3a
  omega⟩
theorem okM_of {x : S30} (h : G30 x) (hs : shortM x = true) : OkM x := by
  obtain ⟨h0, h1, h2a, h2b, h2, h3a, h3b, h3⟩ := h
  have := of_decide_eq_true hs
  exact ⟨okV_of h2 this.1, okV_of h3 this.2⟩
theorem short_is (x : S30) : switchyardlaw18_short.f x.f0 x.f1 x.f2 x.f3 = some (shortM x) := by
  unfold switchyardlaw18_short.f shortM
  by_cases h : x.f2.length ≤ 30
  · rw [if_pos (by omega)]
    refine congrArg some (decide_eq_decide.2 ?_)
    omega
  · rw [if_neg (by omega)]
    refine congrArg some (decide_eq_false ?_).symm
    omega
theorem okV_len {l : List S49} (h : OkV l) : l.length ≤ 4611686018427387904 := by have := h.1; omega
theorem sameMail_ev (x : S30) (h : OkM x) : Ev (fun k => switchyardref13_SameMail.f k x.f0 x.f1 x.f2 x.f3 x.f0 x.f1 x.f2 x.f3) true := by
  have a := sameAll_ev x.f2 x.f2 (okV_len h.1) h.1.short
  have b := sameAll_ev x.f3 x.f3 (okV_len h.2) h.2.short
  rw [decide_eq_true rfl] at a b
  exact Ev.pos rfl (Ev.pos rfl (Ev.bind a (Ev.pos rfl (Ev.bind b (Ev.now _)))))
theorem rd30_at {l : List S30} {i : Nat} (h : i < l.length) : rd_T30 l (i : Int) = l[i] := by
  unfold rd_T30; simp [h]
theorem sameBox_loop (l : List S30) (hl : l.length ≤ 4611686018427387904) (h : ∀ x ∈ l, OkM x) : ∀ d i : Nat, i + d = l.length → Ev (fun k => switchyardref13_SameBox.l0 k l l (l.length : Int) (i : Int)) true := by
  intro d
  induction d with
  | zero =>
    intro i hi
    exact Ev.step (fun k => by simp only [switchyardref13_SameBox.l0]; rfl) (Ev.neg (by omega) (Ev.now _))
  | succ d ih =>
    intro i hi
    have hlt : i < l.length := by omega
    refine Ev.step (fun k => by simp only [switchyardref13_SameBox.l0]; rfl) (Ev.pos (by omega) (Ev.pos (by omega) (Ev.pos (by omega) (Ev.pos (by omega) ?_))))
    rw [rd30_at hlt, wr_succ hlt (by omega)]
    exact Ev.bind (sameMail_ev _ (h _ (List.getElem_mem hlt))) (Ev.pos rfl (ih (i + 1) (by omega)))
theorem sameBox_ev (l : List S30) (hl : l.length ≤ 4611686018427387904) (h : ∀ x ∈ l, OkM x) : Ev (fun k => switchyardref13_SameBox.f k l l) true := by
  unfold switchyardref13_SameBox.f
  exact Ev.pos rfl (sameBox_loop l hl h l.length 0 (by omega))
/-- One count of rounds for all messages. -/
theorem twins_ev : ∀ l : List S30, (∀ x ∈ l, OkM x) → ∃ K, ∀ k, K ≤ k → ∀ x, x ∈ l → mail_twin.f k x.f0 x.f1 x.f2 x.f3 = some (x.f0, x.f1, x.f2, x.f3)
  | [], _ => ⟨0, fun k _ x hx => by cases hx⟩
  | y :: l, h => by
    obtain ⟨k1, h1⟩ := mtwin_ev y (h y List.mem_cons_self)
    obtain ⟨k2, h2⟩ := twins_ev l (fun x hx => h x (List.mem_cons_of_mem _ hx))
    refine ⟨max k1 k2, fun k hk x hx => ?_⟩
    rcases List.mem_cons.1 hx with rfl | hx
    · exact h1 k (by omega)
    · exact h2 k (by omega) x hx
end Go.Proofs.Ythbcekjiljkchaa.XM
namespace Go.Proofs.Ythbcekjiljkchaa.XM
open Go.RowKit Go.Conc Go.Proofs.YthbcekjiljkchaaW.PrintWords Go.Proofs.YthbcekjiljkchaaW.PrintLast Go.Proofs.YthbcekjiljkchaaW.PrintMore Go.Proofs.Ythbcekjiljkchaa.Comm
set_option linter.unusedVariables false
set_option linter.unusedSimpArgs false
/-- What a box is filled with. -/
def Filled (w w' : World) (most : Int) (l : List S30) (e : Ending) : Prop :=
  (l.length ≤ capOf most ∧ ∃ g c S, e = .returned (.tuple #[.pointer (some ⟨g, 0, none⟩), .bool true]) ∧ Box w' w.heap.size S g c (capOf most) l ∧ Below w.heap.size w w') ∨ (capOf most < l.length ∧ e = .returned (.tuple #[.pointer none, .bool false]) ∧ Below w.heap.size w w')
end Go.Proofs.Ythbcekjiljkchaa.XM
namespace Go.Proofs.Ythbcekjiljkchaa.XM
open Go.RowKit Go.Conc Go.Proofs.YthbcekjiljkchaaW.PrintWords Go.Proofs.YthbcekjiljkchaaW.PrintLast Go.Proofs.YthbcekjiljkchaaW.PrintMore Go.Proofs.Ythbcekjiljkchaa.Comm
set_option linter.unusedVariables false
set_option linter.unusedSimpArgs false
theorem Filled.no {w w' : World} {most : Int} {l : List S30} {e : Ending} (h : Filled w w' most l e) (hc : ¬ l.length ≤ capOf most) : e = .returned (.tuple #[.pointer none, .bool false]) ∧ Below w.heap.size w w' := by
  rcases h with ⟨h, _⟩ | ⟨_, h⟩
  · omega
  · exact h
theorem ref_new (w : World) (most : Int) : Calls Try.prog 9 #[.int .i64 most] w fun e w' => ∃ g, e = .returned (.pointer (some ⟨g, 0, none⟩)) ∧ w'.heap[g]? = some (.cells #[.slice none 0 0, .int .i64 (capOf most : Int)] 41 (0, 0)) ∧ w.heap.size ≤ g ∧ Below w.heap.size w w' := by
  have done : ∀ x : Int, x = (capOf most : Int) → ∃ g, Ending.returned (.pointer (some ⟨w.heap.size, 0, none⟩)) = .returned (.pointer (some ⟨g, 0, none⟩)) ∧ (w.alloc (.cells #[.slice none 0 0, .int .i64 x] 41 (0, 0))).heap[g]? = some (.cells #[.slice none 0 0, .int .i64 (capOf most : Int)] 41 (0, 0)) ∧ w.heap.size ≤ g ∧ Below w.heap.size w (w.alloc (.cells #[.slice none 0 0, .int .i64 x] 41 (0, 0))) :=
    fun x hx => ⟨_, rfl, by rw [hx]; exact heap_alloc_new w _, Nat.le_refl _, below_alloc (Below.refl _ _) _⟩
  rcases Int.lt_or_le most 0 with h | h
  · have b1 : decide (most < 0) = true := decide_eq_true h
    go_enter Try.func9, Try.ntmps9
    go_wp2
    go_ret
    exact done 0 (by unfold capOf; omega)
  · have b1 : decide (most < 0) = false := decide_eq_false (by omega)
    rcases Int.lt_or_le 4096 most with h2 | h2
    · have b2 : decide (4096 < most) = true := decide_eq_true h2
      have b3 : decide (most > 4096) = true := decide_eq_true h2
      go_enter Try.func9, Try.ntmps9
      go_wp2
      go_ret
      exact done 4096 (by unfold capOf; omega)
    · have b2 : decide (4096 < most) = false := decide_eq_false (by omega)
      have b3 : decide (most > 4096) = false := decide_eq_false (by omega)
      go_enter Try.func9, Try.ntmps9
      go_wp2
      go_ret
      exact done most (by unfold capOf; omega)
end Go.Proofs.Ythbcekjiljkchaa.XM
namespace Go.Proofs.Ythbcekjiljkchaa.XM
open Go.RowKit Go.Conc Go.Proofs.YthbcekjiljkchaaW.PrintWords Go.Proofs.YthbcekjiljkchaaW.PrintLast Go.Proofs.YthbcekjiljkchaaW.PrintMore
set_option linter.unusedVariables false
set_option linter.unusedSimpArgs false
/-- All cells stay, but that a number may turn into another. -/
structure IntRel (w w' : World) : Prop where
  cell : ∀ q v, w.cell? q = some v → w'.cell? q = some v ∨ ∃ z z', v = .int .i64 z ∧ w'.cell? q = some (.int .i64 z')
  free : ∀ q v, w.cell? q = some v → w.frozen? q = false → w'.frozen? q = false
theorem IntRel.refl (w : World) : IntRel w w := ⟨fun _ _ h => Or.inl h, fun _ _ _ h => h⟩
theorem IntRel.trans {a b c : World} (h : IntRel a b) (k : IntRel b c) : IntRel a c := by
  refine ⟨fun q v hv => ?_, fun q v hv hf => ?_⟩
  · rcases h.cell q v hv with h1 | ⟨z, z', rfl, h1⟩
    · exact k.cell q v h1
    · rcases k.cell q _ h1 with h2 | ⟨y, y', _, h2⟩
      · exact Or.inr ⟨z, z', rfl, h2⟩
      · exact Or.inr ⟨z, y', rfl, h2⟩
  · rcases h.cell q v hv with h1 | ⟨z, z', rfl, h1⟩
    · exact k.free q _ h1 (h.free q v hv hf)
    · exact k.free q _ h1 (h.free q _ hv hf)
theorem IntRel.below {w w' : World} (h : Below w.heap.size w w') : IntRel w w' :=
  ⟨fun q v hv => Or.inl ((h.cell (World.block_lt_of_cell? w q hv)).trans hv), fun q v hv hf => (h.frozen (World.block_lt_of_cell? w q hv)).trans hf⟩
theorem frozen_set (w : World) (p q : Addr) (u : Value) : (w.setCell p u).frozen? q = w.frozen? q := by
  first | exact World.frozen?_setCell w p u q | exact World.frozen?_setCell w p q u | simp
theorem IntRel.store {w : World} {p : Addr} {a b : Int} (h : w.cell? p = some (.int .i64 a)) : IntRel w (w.setCell p (.int .i64 b)) := by
  refine ⟨fun q v hv => ?_, fun q v hv hf => ?_⟩
  · by_cases e : p = q
    · subst e
      rw [hv] at h
      injection h with h
      exact Or.inr ⟨a, b, h, World.cell?_setCell_same w p _ hv⟩
    · exact Or.inl ((World.cell?_setCell_other w p q _ e).trans hv)
  · rw [frozen_set]; exact hf
/-- What isn't a number stays. -/
theorem IntRel.keep {w w' : World} (h : IntRel w w') {q : Addr} {v : Value} (hv : w.cell? q = some v) (hn : ∀ z, v ≠ .int .i64 z) : w'.cell? q = some v := by
  rcases h.cell q v hv with h1 | ⟨z, z', rfl, _⟩
  · exact h1
  · exact absurd rfl (hn z)
theorem IntRel.num {w w' : World} (h : IntRel w w') {q : Addr} {z : Int} (hv : w.cell? q = some (.int .i64 z)) : ∃ z', w'.cell? q = some (.int .i64 z') := by
  rcases h.cell q _ hv with h1 | ⟨_, z', _, h1⟩
  · exact ⟨z, h1⟩
  · exact ⟨z', h1⟩
/-- What isn't D's stays. -/
structure Fr (D : Nat → Prop) (w w' : World) : Prop where
  os : w'.os = w.os
  tape : w'.tape = w.tape
  output : w'.output = w.output
  size : w.heap.size ≤ w'.heap.size
  block : ∀ k, k < w.heap.size → ¬ D k → w'.heap[k]? = w.heap[k]?
theorem Fr.refl (D : Nat → Prop) (w : World) : Fr D w w := ⟨rfl, rfl, rfl, Nat.le_refl _, fun _ _ _ => rfl⟩
theorem Fr.trans {D : Nat → Prop} {a b d : World} (h : Fr D a b) (k : Fr D b d) : Fr D a d :=
  ⟨k.os.trans h.os, k.tape.trans h.tape, k.output.trans h.output, Nat.le_trans h.size k.size, fun i hi hd => (k.block i (Nat.lt_of_lt_of_le hi h.size) hd).trans (h.block i hi hd)⟩
theorem Fr.of_below {D : Nat → Prop} {w w' : World} (h : Below w.heap.size w w') : Fr D w w' := ⟨h.os, h.tape, h.output, h.size, fun k hk _ => h.block k hk⟩
theorem Fr.store {D : Nat → Prop} {w : World} {p : Addr} (u : Value) (hd : D p.block) : Fr D w (w.setCell p u) :=
  ⟨rfl, rfl, rfl, by simp [World.setCell], fun k _ hk => Below.heap_setCell w p u k (fun e => hk (e ▸ hd))⟩
theorem Fr.to_below {D : Nat → Prop} {w w' : World} {B : Nat} (h : Fr D w w') (hD : ∀ k, D k → B ≤ k) (hB : B ≤ w.heap.size) : Below B w w' := ⟨h.os, h.tape, h.output, h.size, fun k hk => h.block k (by omega) (fun hd => by have := hD k hd; omega)⟩
/-- A row of values in D's blocks: their numbers. -/
def Nums (D : Nat → Prop) (w : World) (v : Value) : Prop := ∃ A n c, v = .slice A n c ∧ n ≤ 9223372036854775807 ∧ (0 < n → ∃ b, D b ∧ A = some ⟨b, 0, none⟩ ∧ ∀ j, j < n → ∃ z, w.cell? ⟨b, j * 4 + 1, none⟩ = some (.int .i64 z) ∧ w.frozen? ⟨b, j * 4 + 1, none⟩ = false)
/-- A row of messages: what the law reads of each, and the numbers that it writes into. -/
def Out (D : Nat → Prop) (w : World) (v : Value) (n : Nat) : Prop := ∃ A c, v = .slice A n c ∧ (0 < n → ∃ b, A = some ⟨b, 0, none⟩ ∧ ∀ j, j < n → ∃ x0 s A2 m2 c2 v3, w.cell? ⟨b, j * 4, none⟩ = some (.int .i64 x0) ∧ w.cell? ⟨b, j * 4 + 1, none⟩ = some (.string s) ∧ w.cell? ⟨b, j * 4 + 2, none⟩ = some (.slice A2 m2 c2) ∧ w.cell? ⟨b, j * 4 + 3, none⟩ = some v3 ∧ Nums D w v3)
theorem Nums.keep {D : Nat → Prop} {w w' : World} {v : Value} (h : Nums D w v) (hr : IntRel w w') : Nums D w' v := by
  obtain ⟨A, n, c, e, hn, hh⟩ := h
  refine ⟨A, n, c, e, hn, fun h0 => ?_⟩
  obtain ⟨b, hb, ea, hc⟩ := hh h0
  refine ⟨b, hb, ea, fun j hj => ?_⟩
  obtain ⟨z, h1, h2⟩ := hc j hj
  obtain ⟨z', h3⟩ := hr.num h1
  exact ⟨z', h3, hr.free _ _ h1 h2⟩
theorem Out.keep {D : Nat → Prop} {w w' : World} {v : Value} {n : Nat} (h : Out D w v n) (hr : IntRel w w') : Out D w' v n := by
  obtain ⟨A, c, e, hh⟩ := h
  refine ⟨A, c, e, fun h0 => ?_⟩
  obtain ⟨b, ea, hc⟩ := hh h0
  refine ⟨b, ea, fun j hj => ?_⟩
  obtain ⟨x0, s, A2, m2, c2, v3, q0, q1, q2, q3, n3⟩ := hc j hj
  obtain ⟨y0, p0⟩ := hr.num q0
  have e3 : ∀ z, v3 ≠ .int .i64 z := by
    obtain ⟨A3, n3', c3, e3, _⟩ := n3
    intro z hz; rw [e3] at hz; cases hz
  exact ⟨y0, s, A2, m2, c2, v3, p0, hr.keep q1 (fun z hz => by cases hz), hr.keep q2 (fun z hz => by cases hz), hr.keep q3 e3, n3.keep hr⟩
/-- A box that D's blocks leave. -/
theorem Box.fr {D : Nat → Prop} {w w' : World} {B : Nat} {ok : Nat → Prop} {g c cap : Nat} {ms : List S30} (h : Box w B ok g c cap ms) (hf : Fr D w w') (hg : ¬ D g) (hc : ¬ D c) (hm : ∀ k, ok k → ¬ D k) : Box w' B ok g c cap ms := by
  obtain ⟨_, h2, h3, _⟩ := h.at_
  exact h.step (hf.block g h3 hg) (hf.block c (by omega) hc) (fun k hk _ hlt => hf.block k hlt (hm k hk))
end Go.Proofs.Ythbcekjiljkchaa.XM
