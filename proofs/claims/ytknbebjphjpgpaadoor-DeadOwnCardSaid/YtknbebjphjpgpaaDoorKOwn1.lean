/- Words, printed functions and plain lemmas that the claim's theorem reaches (gathered by a program of this session out of its own and the print's texts). No conditions but those that each statement names. -/
import Derived.Test.YtknbebjphjpgpaaDoorKOwn0
import Derived.Test.YtknbebjphjpgpaaDoorProg
import Derived.Below
import Derived.Deep.Draws
import Derived.Deep.AppendLies
import Derived.Maps.AppendAt
import Derived.OwnWalk
import Derived.Laws.BytesArg
import Derived.Laws.MakeOwn
import Derived.Laws.OwnMore
import Derived.Deep.OwnRows
import Derived.Tactics
import Derived.Lib.ConvBytes
import Derived.Laws.Slices
import Derived.WalkKit
import Derived.KernelRfl
import Derived.RowKit3
import Derived.Deep.LoopGhost
import Derived.Deep.QuietTactic
import Derived.BigQuiet
import Derived.WideLaws
import Derived.Deep.DeepCutAuto
import Derived.Deep.CutBlock
import Derived.Deep.RegionHeld3
import Derived.Laws.Rows
import Derived.Lib.AppendStr
import Derived.ArgAppend
import Derived.Laws.IdiomCopy
import Derived.OrdersHeld
import Derived.Laws.BitsLemmas
import Derived.RowKit
import Derived.WalkLawsBesides
import Derived.WalkSpells
import Derived.Laws.RangeString
import Derived.Laws.RangeAny
import Derived.StillTailTactics
import Derived.Deep.RegionLaw
import Derived.Deep.LoopGhost
import Derived.Lib.SmallJoins
import Derived.Lib.LaidTab
import Derived.SizedLaws
import Derived.ChangeArms
import Derived.DataReads
import Derived.Lib.LaidU8
import Derived.MakeChecks
namespace Go.Proofs.YtknbebjphjpgpaaDoor.XD
open Go.RowKit Go.Proofs.YtknbebjphjpgpaaDoorW.PrintWords Go.Proofs.YtknbebjphjpgpaaDoorW.PrintLast Go.Proofs.YtknbebjphjpgpaaDoorW.PrintMore
attribute [local go_sem] max2_int min2_int max_two min_two max_three min_three max_four min_four   -- for this text's walks alone
set_option linter.unusedVariables false
set_option linter.unusedSimpArgs false
def errW : Option Int → Value
  | none => .nilIface
  | some c => .iface 0 (.int .i64 c)
theorem errW_none : errW none = .nilIface := rfl
theorem errW_some (c : Int) : errW (some c) = .iface 0 (.int .i64 c) := rfl
theorem info2 : (Tryd.prog.info? 2).map (fun i => (i.zero, i.size, i.bytes)) = some (some (.int .i64 0), 1, 8) := by kernel_rfl
theorem info27 : (Tryd.prog.info? 27).map (fun i => (i.zero, i.size, i.bytes)) = some (some (.agg #[(.int .i64 0), (.int .i64 0), (.string ⟨#[]⟩), (.slice none 0 0), (.slice none 0 0), (.int .i64 0)]), 6, 88) := by kernel_rfl
theorem info37 : (Tryd.prog.info? 37).map (fun i => (i.zero, i.size, i.bytes)) = some (some (.agg #[(.int .i64 0), (.int .i64 0), (.string ⟨#[]⟩), (.slice none 0 0)]), 4, 56) := by kernel_rfl
structure S37 where
  f0 : Int
  f1 : Int
  f2 : ByteArray
  f3 : (List Int)
def z37 : S37 := ⟨(0 : Int), (0 : Int), (⟨#[]⟩ : ByteArray), ([] : List Int)⟩
def k37 : Kd S37 := Kd.iso (Kd.pair (Kd.int .i64) (Kd.pair (Kd.int .i64) (Kd.pair Kd.string (Kd.slice 2 (Kd.int .i64))))) (fun x : S37 => (x.f0, x.f1, x.f2, x.f3))
theorem k37_open {w : World} {x : S37} {cs : List Value} (h : k37.K w x cs) : ∃ A3 c3, cs = [.int .i64 x.f0, .int .i64 x.f1, .string x.f2, .slice A3 x.f3.length c3] ∧ x.f3.length ≤ c3 ∧ (Kd.int .i64).C w A3 x.f3.length x.f3 := by
  obtain ⟨_, _, rfl, rfl, ⟨_, _, rfl, rfl, ⟨_, _, rfl, rfl, ⟨A3, c3, rfl, l3, g3⟩⟩⟩⟩ := h
  exact ⟨A3, c3, rfl, l3, g3⟩
theorem k37_openM {w : World} {base : Nat} {ok : Nat → Prop} {x : S37} {cs : List Value} (h : k37.M w base ok x cs) : ∃ v3, cs = [.int .i64 x.f0, .int .i64 x.f1, .string x.f2, v3] ∧ (Kd.int .i64).R 2 w base ok v3 x.f3 := by
  obtain ⟨_, _, rfl, rfl, ⟨_, _, rfl, rfl, ⟨_, _, rfl, rfl, ⟨v3, rfl, g3⟩⟩⟩⟩ := h
  exact ⟨v3, rfl, g3⟩
theorem k37_mkM (w : World) (base : Nat) (ok : Nat → Prop) (x : S37) {v3 : Value} (g3 : (Kd.int .i64).R 2 w base ok v3 x.f3) : k37.M w base ok x [.int .i64 x.f0, .int .i64 x.f1, .string x.f2, v3] := ⟨[.int .i64 x.f0], [.int .i64 x.f1, .string x.f2, v3], rfl, rfl, ⟨[.int .i64 x.f1], [.string x.f2, v3], rfl, rfl, ⟨[.string x.f2], [v3], rfl, rfl, ⟨v3, rfl, g3⟩⟩⟩⟩
def rd_T37 (xs : List S37) (i : Int) : S37 := xs.getD i.toNat z37
theorem at_T37 {w : World} {A : Option Addr} {n : Nat} {xs : List S37} (h : Kd.C k37 w A n xs) (i : Int) (h0 : 0 ≤ i) (h1 : i < n) : ∃ ad A3 c3, A = some ad ∧ w.cell? (ad.add (i.toNat * 4)) = some (.int .i64 (rd_T37 xs i).f0) ∧ w.cell? ⟨(ad.add (i.toNat * 4)).block, (ad.add (i.toNat * 4)).off + 1, none⟩ = some (.int .i64 (rd_T37 xs i).f1) ∧ w.cell? ⟨(ad.add (i.toNat * 4)).block, (ad.add (i.toNat * 4)).off + 2, none⟩ = some (.string (rd_T37 xs i).f2) ∧ w.cell? ⟨(ad.add (i.toNat * 4)).block, (ad.add (i.toNat * 4)).off + 3, none⟩ = some (.slice A3 (rd_T37 xs i).f3.length c3) ∧ (rd_T37 xs i).f3.length ≤ c3 ∧ (Kd.int .i64).C w A3 (rd_T37 xs i).f3.length (rd_T37 xs i).f3 := by
  obtain ⟨ad, c, e, _, hK, hc0⟩ := Kd.C_get h z37 i h0 h1
  have hc : ∀ j u, c[j]? = some u → w.cell? (ad.add (i.toNat * 4 + j)) = some u := hc0
  obtain ⟨A3, c3, rfl, l3, g3⟩ := k37_open hK
  exact ⟨ad, A3, c3, e, hc 0 _ rfl, by rw [← add_field _ _ 1 (by omega)]; exact hc 1 _ rfl, by rw [← add_field _ _ 2 (by omega)]; exact hc 2 _ rfl, by rw [← add_field _ _ 3 (by omega)]; exact hc 3 _ rfl, l3, g3⟩
structure S25 where
  f0 : Int
  f1 : ByteArray
  f2 : (List S37)
  f3 : (List S37)
def z25 : S25 := ⟨(0 : Int), (⟨#[]⟩ : ByteArray), ([] : List S37), ([] : List S37)⟩
def k25 : Kd S25 := Kd.iso (Kd.pair (Kd.int .i64) (Kd.pair Kd.string (Kd.pair (Kd.slice 37 k37) (Kd.slice 37 k37)))) (fun x : S25 => (x.f0, x.f1, x.f2, x.f3))
theorem k25_open {w : World} {x : S25} {cs : List Value} (h : k25.K w x cs) : ∃ A2 c2 A3 c3, cs = [.int .i64 x.f0, .string x.f1, .slice A2 x.f2.length c2, .slice A3 x.f3.length c3] ∧ x.f2.length ≤ c2 ∧ k37.C w A2 x.f2.length x.f2 ∧ x.f3.length ≤ c3 ∧ k37.C w A3 x.f3.length x.f3 := by
  obtain ⟨_, _, rfl, rfl, ⟨_, _, rfl, rfl, ⟨_, _, rfl, ⟨A2, c2, rfl, l2, g2⟩, ⟨A3, c3, rfl, l3, g3⟩⟩⟩⟩ := h
  exact ⟨A2, c2, A3, c3, rfl, l2, g2, l3, g3⟩
theorem k25_openM {w : World} {base : Nat} {ok : Nat → Prop} {x : S25} {cs : List Value} (h : k25.M w base ok x cs) : ∃ v2 v3, cs = [.int .i64 x.f0, .string x.f1, v2, v3] ∧ k37.R 37 w base ok v2 x.f2 ∧ k37.R 37 w base ok v3 x.f3 := by
  obtain ⟨_, _, rfl, rfl, ⟨_, _, rfl, rfl, ⟨_, _, rfl, ⟨v2, rfl, g2⟩, ⟨v3, rfl, g3⟩⟩⟩⟩ := h
  exact ⟨v2, v3, rfl, g2, g3⟩
theorem k25_mk (w : World) (x : S25) {A2 : Option Addr} {c2 : Nat} (l2 : x.f2.length ≤ c2) (g2 : k37.C w A2 x.f2.length x.f2) {A3 : Option Addr} {c3 : Nat} (l3 : x.f3.length ≤ c3) (g3 : k37.C w A3 x.f3.length x.f3) : k25.K w x [.int .i64 x.f0, .string x.f1, .slice A2 x.f2.length c2, .slice A3 x.f3.length c3] := ⟨[.int .i64 x.f0], [.string x.f1, .slice A2 x.f2.length c2, .slice A3 x.f3.length c3], rfl, rfl, ⟨[.string x.f1], [.slice A2 x.f2.length c2, .slice A3 x.f3.length c3], rfl, rfl, ⟨[.slice A2 x.f2.length c2], [.slice A3 x.f3.length c3], rfl, ⟨A2, c2, rfl, l2, g2⟩, ⟨A3, c3, rfl, l3, g3⟩⟩⟩⟩
theorem k25_mkM (w : World) (base : Nat) (ok : Nat → Prop) (x : S25) {v2 : Value} (g2 : k37.R 37 w base ok v2 x.f2) {v3 : Value} (g3 : k37.R 37 w base ok v3 x.f3) : k25.M w base ok x [.int .i64 x.f0, .string x.f1, v2, v3] := ⟨[.int .i64 x.f0], [.string x.f1, v2, v3], rfl, rfl, ⟨[.string x.f1], [v2, v3], rfl, rfl, ⟨[v2], [v3], rfl, ⟨v2, rfl, g2⟩, ⟨v3, rfl, g3⟩⟩⟩⟩
structure S27 where
  f0 : Int
  f1 : S25
  f2 : Int
def z27 : S27 := ⟨(0 : Int), z25, (0 : Int)⟩
def k27 : Kd S27 := Kd.iso (Kd.pair (Kd.int .i64) (Kd.pair k25 (Kd.int .i64))) (fun x : S27 => (x.f0, x.f1, x.f2))
theorem k27_open {w : World} {x : S27} {cs : List Value} (h : k27.K w x cs) : ∃ A3 c3 A4 c4, cs = [.int .i64 x.f0, .int .i64 x.f1.f0, .string x.f1.f1, .slice A3 x.f1.f2.length c3, .slice A4 x.f1.f3.length c4, .int .i64 x.f2] ∧ x.f1.f2.length ≤ c3 ∧ k37.C w A3 x.f1.f2.length x.f1.f2 ∧ x.f1.f3.length ≤ c4 ∧ k37.C w A4 x.f1.f3.length x.f1.f3 := by
  obtain ⟨_, _, rfl, rfl, ⟨_, _, rfl, s1, rfl⟩⟩ := h
  obtain ⟨A3, c3, A4, c4, rfl, l3, g3, l4, g4⟩ := k25_open s1
  exact ⟨A3, c3, A4, c4, rfl, l3, g3, l4, g4⟩
theorem k27_openM {w : World} {base : Nat} {ok : Nat → Prop} {x : S27} {cs : List Value} (h : k27.M w base ok x cs) : ∃ v3 v4, cs = [.int .i64 x.f0, .int .i64 x.f1.f0, .string x.f1.f1, v3, v4, .int .i64 x.f2] ∧ k37.R 37 w base ok v3 x.f1.f2 ∧ k37.R 37 w base ok v4 x.f1.f3 := by
  obtain ⟨_, _, rfl, rfl, ⟨_, _, rfl, s1, rfl⟩⟩ := h
  obtain ⟨v3, v4, rfl, g3, g4⟩ := k25_openM s1
  exact ⟨v3, v4, rfl, g3, g4⟩
theorem k27_mk (w : World) (x : S27) {A3 : Option Addr} {c3 : Nat} (l3 : x.f1.f2.length ≤ c3) (g3 : k37.C w A3 x.f1.f2.length x.f1.f2) {A4 : Option Addr} {c4 : Nat} (l4 : x.f1.f3.length ≤ c4) (g4 : k37.C w A4 x.f1.f3.length x.f1.f3) : k27.K w x [.int .i64 x.f0, .int .i64 x.f1.f0, .string x.f1.f1, .slice A3 x.f1.f2.length c3, .slice A4 x.f1.f3.length c4, .int .i64 x.f2] := ⟨[.int .i64 x.f0], [.int .i64 x.f1.f0, .string x.f1.f1, .slice A3 x.f1.f2.length c3, .slice A4 x.f1.f3.length c4, .int .i64 x.f2], rfl, rfl, ⟨[.int .i64 x.f1.f0, .string x.f1.f1, .slice A3 x.f1.f2.length c3, .slice A4 x.f1.f3.length c4], [.int .i64 x.f2], rfl, (k25_mk w x.f1 l3 g3 l4 g4), rfl⟩⟩
theorem k27_mkM (w : World) (base : Nat) (ok : Nat → Prop) (x : S27) {v3 : Value} (g3 : k37.R 37 w base ok v3 x.f1.f2) {v4 : Value} (g4 : k37.R 37 w base ok v4 x.f1.f3) : k27.M w base ok x [.int .i64 x.f0, .int .i64 x.f1.f0, .string x.f1.f1, v3, v4, .int .i64 x.f2] := ⟨[.int .i64 x.f0], [.int .i64 x.f1.f0, .string x.f1.f1, v3, v4, .int .i64 x.f2], rfl, rfl, ⟨[.int .i64 x.f1.f0, .string x.f1.f1, v3, v4], [.int .i64 x.f2], rfl, (k25_mkM w base ok x.f1 g3 g4), rfl⟩⟩
theorem k27_mkF (W : World) (ok : Nat → Prop) (x : S27) {A3 : Option Addr} {c3 : Nat} (l3 : x.f1.f2.length ≤ c3) (g3 : Kd.F k37 W ok A3 x.f1.f2.length x.f1.f2) {A4 : Option Addr} {c4 : Nat} (l4 : x.f1.f3.length ≤ c4) (g4 : Kd.F k37 W ok A4 x.f1.f3.length x.f1.f3) : Kd.FK k27 W ok x [.int .i64 x.f0, .int .i64 x.f1.f0, .string x.f1.f1, .slice A3 x.f1.f2.length c3, .slice A4 x.f1.f3.length c4, .int .i64 x.f2] := fun W2 hW => k27_mk W2 x l3 (g3 W2 hW) l4 (g4 W2 hW)
def rd_T27 (xs : List S27) (i : Int) : S27 := xs.getD i.toNat z27
theorem at_T27 {w : World} {A : Option Addr} {n : Nat} {xs : List S27} (h : Kd.C k27 w A n xs) (i : Int) (h0 : 0 ≤ i) (h1 : i < n) : ∃ ad A3 c3 A4 c4, A = some ad ∧ w.cell? (ad.add (i.toNat * 6)) = some (.int .i64 (rd_T27 xs i).f0) ∧ w.cell? ⟨(ad.add (i.toNat * 6)).block, (ad.add (i.toNat * 6)).off + 1, none⟩ = some (.int .i64 (rd_T27 xs i).f1.f0) ∧ w.cell? ⟨(ad.add (i.toNat * 6)).block, (ad.add (i.toNat * 6)).off + 2, none⟩ = some (.string (rd_T27 xs i).f1.f1) ∧ w.cell? ⟨(ad.add (i.toNat * 6)).block, (ad.add (i.toNat * 6)).off + 3, none⟩ = some (.slice A3 (rd_T27 xs i).f1.f2.length c3) ∧ w.cell? ⟨(ad.add (i.toNat * 6)).block, (ad.add (i.toNat * 6)).off + 4, none⟩ = some (.slice A4 (rd_T27 xs i).f1.f3.length c4) ∧ w.cell? ⟨(ad.add (i.toNat * 6)).block, (ad.add (i.toNat * 6)).off + 5, none⟩ = some (.int .i64 (rd_T27 xs i).f2) ∧ (rd_T27 xs i).f1.f2.length ≤ c3 ∧ k37.C w A3 (rd_T27 xs i).f1.f2.length (rd_T27 xs i).f1.f2 ∧ (rd_T27 xs i).f1.f3.length ≤ c4 ∧ k37.C w A4 (rd_T27 xs i).f1.f3.length (rd_T27 xs i).f1.f3 := by
  obtain ⟨ad, c, e, _, hK, hc0⟩ := Kd.C_get h z27 i h0 h1
  have hc : ∀ j u, c[j]? = some u → w.cell? (ad.add (i.toNat * 6 + j)) = some u := hc0
  obtain ⟨A3, c3, A4, c4, rfl, l3, g3, l4, g4⟩ := k27_open hK
  exact ⟨ad, A3, c3, A4, c4, e, hc 0 _ rfl, by rw [← add_field _ _ 1 (by omega)]; exact hc 1 _ rfl, by rw [← add_field _ _ 2 (by omega)]; exact hc 2 _ rfl, by rw [← add_field _ _ 3 (by omega)]; exact hc 3 _ rfl, by rw [← add_field _ _ 4 (by omega)]; exact hc 4 _ rfl, by rw [← add_field _ _ 5 (by omega)]; exact hc 5 _ rfl, l3, g3, l4, g4⟩
end Go.Proofs.YtknbebjphjpgpaaDoor.XD
namespace Go.Proofs.YtknbebjphjpgpaaDoor.XD
open Go.RowKit Go.Proofs.YtknbebjphjpgpaaDoorW.PrintWords Go.Proofs.YtknbebjphjpgpaaDoorW.PrintLast Go.Proofs.YtknbebjphjpgpaaDoorW.PrintMore
attribute [local go_sem] max2_int min2_int max_two min_two max_three min_three max_four min_four   -- for this text's walks alone
set_option linter.unusedVariables false
set_option linter.unusedSimpArgs false
section
variable {P : Program} {ops : Array Oper} {Q : Exit → Act → World → Prop}
/-- A call of a function value that lies in a slot, with what it has captured. -/
theorem goesLF_ {rest : List Oper} {oi : Oper} {a : Act} {w : World} (N : Option Tmp) (hd : oi.dst = N) (hg : oi.guard = none) {f : FuncId} {fn : Func} (op : Operand) (first cap : Array Value) {ars : Array Operand} {ts : Array TypeId} (hf : P.funcs[f]? = some fn) (hname : (fn.name == "runtime.NumGoroutine") = false) (hb : fn.body.isSome = true) (args : Array Value)
    (hop : oi.op = .call { callee := .value op, args := ars, argTypes := ts }) (hv : a.eval op = .func (.func f) first cap) (hargs : first ++ ars.map a.eval ++ cap = args)
    (h : Calls P f args w fun e w' => ∃ v, e = .returned v ∧ wpList P ops Q rest (a.put N v) w') : wpList P ops Q (oi :: rest) a w := by
  refine wpList_plain hg fun K hK => ?_
  have he := enters_ hf hname hb args w
  have hrun : (execOp a.eval oi).run P w = .ok (.enter f args) w := by
    unfold execOp
    simp only [hop, resolve, hv]
    simp [Deferred.ofValue, invoke, Act.eval, hargs, he]
  unfold Oper.wp
  rw [hrun, Oper.upon_enter]
  refine h.mono fun e w'' hh => ?_
  obtain ⟨v, rfl, hk⟩ := hh
  subst hd
  exact hK _ _ hk
theorem goesLG_ {rest : List Oper} {oi : Oper} {a : Act} {w : World} (N : Option Tmp) (hd : oi.dst = N) (hg : oi.guard = none) {f : FuncId} {fn : Func} (op : Operand) (cap : Array Value) {ars : Array Operand} {ts : Array TypeId} (hf : P.funcs[f]? = some fn) (hname : (fn.name == "runtime.NumGoroutine") = false) (hb : fn.body.isSome = true) (xs : Array Value)
    (hop : oi.op = .call { callee := .value op, args := ars, argTypes := ts }) (hv : a.eval op = .func (.func f) #[] cap) (hargs : ars.map a.eval = xs)
    (h : Calls P f (xs ++ cap) w fun e w' => ∃ v, e = .returned v ∧ wpList P ops Q rest (a.put N v) w') : wpList P ops Q (oi :: rest) a w :=
  goesLF_ N hd hg op #[] cap hf hname hb (xs ++ cap) hop hv (by rw [hargs, Array.empty_append]) h
theorem gate_calleeF {rest : List Oper} {o : Oper} {a : Act} {W : World} {op : Operand} {ars : Array Operand} {ts : Array TypeId} (_ho : o.op = .call { callee := .value op, args := ars, argTypes := ts }) (h : wpList P ops Q (o :: rest) a W) : wpList P ops Q (o :: rest) a W := h
end
/-- Strings of a table, read off the row's reading. -/
theorem cells_of_strs {H : Type} {enc : TypeId × Value → H} {P : Program} {w : World} {base : Nat} {sp : Nat → Bool} {held : Bool} {fuel : Nat} {t e : TypeId} {n : Nat} {cs : List Value} {zs : List (List UInt8)} {p : List MemPlace}
    (ht : P.underlying t = some (.array n e)) (he : P.underlying e = some .string) (hce : P.cellsOf e = 1) (hct : P.cellsOf t = n)
    (h : DataW.trod enc P w base sp held fuel t cs = some (.agg (zs.map fun z => .lit (.string z)), p)) : cs = zs.map fun z => Value.string ⟨z.toArray⟩ := by
  cases fuel with
  | zero => simp [DataW.trod] at h
  | succ fuel =>
    simp only [DataW.trod, ht, hce, hct, Nat.mul_one] at h
    split at h
    · rename_i hl
      obtain ⟨xs, hm, hx⟩ := Option.map_eq_some_iff.1 h
      have hxs : xs.map (·.1) = zs.map fun z => (DataW.lit (.string z) : DataW H) := by
        have := congrArg Prod.fst hx
        simpa using this
      have hxl : xs.length = n := by simpa using Lib.mapM_length hm
      have hzl : zs.length = n := by
        have := congrArg List.length hxs
        simp at this
        omega
      apply List.ext_getElem?
      intro i
      by_cases hi : i < n
      · obtain ⟨b, hb, hf⟩ := Lib.mapM_at hm i i (by simp [hi])
        obtain ⟨s, hc, hb2, _⟩ := DataW.trod_string he hf
        have h1 : cs[i]? = some (.string s) := by
          have := congrArg (·[0]?) hc
          simpa [List.getElem?_take, List.getElem?_drop] using this
        have h2 : (xs.map (·.1))[i]? = some (DataW.lit (.string s.data.toList) : DataW H) := by simp [hb, hb2]
        rw [hxs] at h2
        simp only [List.getElem?_map, Option.map_eq_some_iff, DataW.lit.injEq, Lit.string.injEq] at h2
        obtain ⟨z', hz', hz2⟩ := h2
        have e : (⟨z'.toArray⟩ : ByteArray) = s := by rw [hz2]
        simp [h1, hz', e]
      · rw [List.getElem?_eq_none (by omega), List.getElem?_eq_none (by simp; omega)]
    · cases h
def wordL : List (List UInt8) := [[], [110, 111, 32, 109, 97, 116, 99, 104], [116, 111, 111, 32, 102, 101, 119], [116, 111, 111, 32, 109, 97, 110, 121], [111, 118, 101, 114], [98, 117, 114, 105, 101, 100]]
/-- The table stands as the text lays it. -/
def Tabs (w : World) : Prop := w.var? Tryd.prog "switchyard/dead.words" = some (wordL.map fun z => Value.string ⟨z.toArray⟩).toArray
theorem Tabs.below {w W : World} (h : Tabs w) (hb : Below w.heap.size w W) : Tabs W := Go.Joins.var_stays (g := 0) (by kernel_rfl) h hb (Nat.le_refl _)
theorem Tabs.cell {w : World} (h : Tabs w) (i : Nat) (hi : i < 6) : w.cell? ⟨0, i, none⟩ = some (Value.string ⟨(wordL.getD i []).toArray⟩) := by
  have := World.var?_cell (g := 0) (by kernel_rfl) h i
  rw [this]
  have hl : i < wordL.length := hi
  simp [List.getD, hl]
def wordB (r : Int) : ByteArray := ⟨(wordL.getD r.toNat []).toArray⟩
set_option maxHeartbeats 800000 in
theorem word_calls (w : World) (r : Int) (hT : Tabs w) : Calls Tryd.prog 12 #[.int .i64 r] w fun e w' => e = .returned (.string (wordB r)) ∧ Below w.heap.size w w' := by
  by_cases h0 : r < 0
  · have d0 : decide (r < 0) = true := decide_eq_true h0
    have e : wordB r = ⟨#[]⟩ := by unfold wordB; rw [show r.toNat = 0 by omega]; rfl
    rw [e]
    go_enter Tryd.func12, Tryd.ntmps12
    go_wp2
    go_ret
    exact ⟨rfl, Below.refl _ _⟩
  · have d0 : decide (r < 0) = false := decide_eq_false h0
    by_cases h6 : 6 ≤ r
    · have d1 : decide (6 ≤ r) = true := decide_eq_true h6
      have e : wordB r = ⟨#[]⟩ := by
        unfold wordB
        have hl : wordL.length = 6 := rfl
        rw [show wordL.getD r.toNat [] = [] by rw [List.getD_eq_getElem?_getD, List.getElem?_eq_none (by omega)]; rfl]
      rw [e]
      clear h0
      go_enter Tryd.func12, Tryd.ntmps12
      go_wp2
      go_ret
      exact ⟨rfl, Below.refl _ _⟩
    · have d1 : decide (6 ≤ r) = false := decide_eq_false h6
      obtain ⟨i, rfl⟩ : ∃ i : Nat, r = (i : Int) := ⟨r.toNat, by omega⟩
      have hi : i < 6 := by omega
      have hc := hT.cell i hi
      have p0 : ((0 : Int) ≤ (i : Int)) = True := eq_true (by omega)
      have p1 : ((i : Int) < 6) = True := eq_true (by omega)
      have e : wordB (i : Int) = ⟨(wordL.getD i []).toArray⟩ := by unfold wordB; rw [Int.toNat_natCast]
      rw [e]
      generalize (⟨(wordL.getD i []).toArray⟩ : ByteArray) = s at *
      clear h0 h6 e
      go_enter Tryd.func12, Tryd.ntmps12
      go_wp2
      go_ret
      exact ⟨rfl, Below.refl _ _⟩
def dead_Word.f (a0 : Int) : Option ByteArray := some (wordB a0)
theorem dead_Word.calls (a0 : Int) (r : ByteArray) (w : World) (h : dead_Word.f a0 = some r) (hT : Tabs w) :
    Calls Tryd.prog 12 #[.int .i64 a0] w fun e w' => e = .returned (.string r) ∧ Below w.heap.size w w' := by
  obtain rfl := Option.some.inj h
  exact word_calls w a0 hT
set_option maxHeartbeats 800000 in
theorem is_calls (g : Nat) (w : World) (n : Int) (x : S27) (A3 A4 : Option Addr) (c3 c4 : Nat) (hg : w.heap[g]? = some (.cells #[.int .i64 n] 2 (0, 0))) :
    Calls Tryd.prog 27 #[.agg #[.int .i64 x.f0, .int .i64 x.f1.f0, .string x.f1.f1, .slice A3 x.f1.f2.length c3, .slice A4 x.f1.f3.length c4, .int .i64 x.f2], .pointer (some ⟨g, 0, none⟩)] w fun e w' => e = .returned (.bool (x.f0 == n)) ∧ Below w.heap.size w w' := by
  have HG := Aside0.mk hg
  have hgl := blk_lt hg
  clear hg
  go_enter Tryd.func27, Tryd.ntmps27
  go_upto_region 1 with (fail)
  have hcn := (blk_cell (blk_alloc HG.out (.cells #[.int .i64 x.f0, .int .i64 x.f1.f0, .string x.f1.f1, .slice A3 x.f1.f2.length c3, .slice A4 x.f1.f3.length c4, .int .i64 x.f2] 27)) 0).trans rfl
  have hb := blk_new w (.cells #[.int .i64 x.f0, .int .i64 x.f1.f0, .string x.f1.f1, .slice A3 x.f1.f2.length c3, .slice A4 x.f1.f3.length c4, .int .i64 x.f2] 27)
  have hcx := (blk_cell hb 0).trans rfl
  have HB := Aside0.mk (below_alloc (Below.refl w.heap.size w) (.cells #[.int .i64 x.f0, .int .i64 x.f1.f0, .string x.f1.f1, .slice A3 x.f1.f2.length c3, .slice A4 x.f1.f3.length c4, .int .i64 x.f2] 27))
  clear hb
  generalize w.alloc (.cells #[.int .i64 x.f0, .int .i64 x.f1.f0, .string x.f1.f1, .slice A3 x.f1.f2.length c3, .slice A4 x.f1.f3.length c4, .int .i64 x.f2] 27) = w1 at *
  go_wp2
  go_ret
  exact ⟨rfl, HB.out⟩
theorem wr_succ {i n : Nat} (h : i < n) (hn : n ≤ 9223372036854775807) : wrap64 ((i : Int) + 1) = ((i + 1 : Nat) : Int) := by
  unfold wrap64; omega
theorem rd27_at {l : List S27} {i : Nat} (h : i < l.length) : rd_T27 l (i : Int) = l[i] := by
  unfold rd_T27; simp [h]
/-- r is the first place of n in l, or -1. -/
def IsIdx (l : List S27) (n r : Int) : Prop := (r = -1 ∧ ∀ x ∈ l, x.f0 ≠ n) ∨ ∃ (i : Nat) (h : i < l.length), r = (i : Int) ∧ l[i].f0 = n ∧ ∀ (j : Nat) (hj : j < l.length), j < i → l[j].f0 ≠ n
set_option maxHeartbeats 1600000 in
theorem index_calls (W : World) (A : Option Addr) (c : Nat) (l : List S27) (g : Nat) (n : Int) (hC : Kd.C k27 W A l.length l) (hl : l.length ≤ 4611686018427387904) (hg : W.heap[g]? = some (.cells #[.int .i64 n] 2 (0, 0))) :
    Calls Tryd.prog 26 #[.slice A l.length c, .func (.func 27) #[] #[.pointer (some ⟨g, 0, none⟩)]] W fun e w' => ∃ r, e = .returned (.int .i64 r) ∧ IsIdx l n r ∧ Below W.heap.size W w' := by
  have HR := Aside0.mk hC
  have HG := Aside0.mk hg
  have HB := Aside0.mk (Below.refl W.heap.size W)
  clear hC hg
  go_enter Tryd.func26, Tryd.ntmps26
  go_wp2
  go_loopg [8] l.length (fun kq v8 w' => ∃ i : Nat, v8 = .int .i64 (i : Int) ∧ Aside0 (i + kq = l.length) ∧ Aside0 (∀ (j : Nat) (hj : j < l.length), j < i → l[j].f0 ≠ n) ∧ Aside0 (w'.heap[g]? = some (.cells #[.int .i64 n] 2 (0, 0))) ∧ Aside0 (Below W.heap.size W w'))
  case atStart => exact ⟨0, rfl, ⟨by omega⟩, ⟨fun j hj h => by omega⟩, HG, HB⟩
  case round =>
    clear HG HB
    obtain ⟨i, rfl, HI, HN, HG, HB⟩ := hrel
    by_cases hi : i < l.length
    · have b0 : decide ((i : Int) < (l.length : Int)) = true := decide_eq_true (by omega)
      obtain ⟨x, hx⟩ : ∃ x, x = l[i] := ⟨_, rfl⟩
      have HX := Aside0.mk hx
      have p0 : (0 : Int) ≤ (i : Int) := by omega
      have q0 : (i : Int) < (l.length : Int) := by omega
      obtain ⟨ad, A3, c3, A4, c4, ea, hx0, hx1, hx2, hx3, hx4, hx5, hl3, hi3, hl4, hi4⟩ := at_T27 (Kd.C_below HR.out HB.out) (i : Int) p0 q0
      rw [rd27_at hi, ← hx] at hx0 hx1 hx2 hx3 hx4 hx5 hl3 hi3 hl4 hi4
      simp only [Int.toNat_natCast] at hx0 hx1 hx2 hx3 hx4 hx5
      subst ea
      clear hl3 hi3 hl4 hi4 hx
      have hw : IntKind.i64.wrap ((i : Int) + 1) = ((i + 1 : Nat) : Int) := by rw [i64_w]; exact wr_succ hi (by omega)
      replace p0 := eq_true p0
      replace q0 := eq_true q0
      by_cases he : x.f0 = n
      · have e0 : (x.f0 == n) = true := by rw [he]; simp
        have HE := Aside0.mk he
        clear he
        go_wp2_with (first | ((with_reducible refine gate_calleeF (op := .tmp 11) rfl ?_); refine goesLF_ (some 16) rfl rfl (f := 27) (.tmp 11) #[] #[.pointer (some ⟨g, 0, none⟩)] Tryd.func27 (by kernel_rfl) rfl #[.agg #[.int .i64 x.f0, .int .i64 x.f1.f0, .string x.f1.f1, .slice A3 x.f1.f2.length c3, .slice A4 x.f1.f3.length c4, .int .i64 x.f2], .pointer (some ⟨g, 0, none⟩)] rfl rfl (by (try simp only [List.map_toArray, List.map_cons, List.map_nil]); first | done | rfl) ?_; refine (is_calls g _ n x A3 A4 c3 c4 HG.out).mono ?_; rintro e wn ⟨rfl, hb⟩; refine ⟨_, rfl, ?_⟩; have n0_ := Aside0.mk (below_step HB.out hb); have n1_ := Aside0.mk (blk_below HG.out hb); clear HB HG hb; have HB := n0_; have HG := n1_; clear n0_ n1_))
        go_ret
        exact ⟨_, rfl, Or.inr ⟨i, hi, rfl, by rw [← HX.out]; exact HE.out, HN.out⟩, HB.out⟩
      · have e0 : (x.f0 == n) = false := by rw [beq_eq_false_iff_ne]; exact he
        go_wp2_with (first | ((with_reducible refine gate_calleeF (op := .tmp 11) rfl ?_); refine goesLF_ (some 16) rfl rfl (f := 27) (.tmp 11) #[] #[.pointer (some ⟨g, 0, none⟩)] Tryd.func27 (by kernel_rfl) rfl #[.agg #[.int .i64 x.f0, .int .i64 x.f1.f0, .string x.f1.f1, .slice A3 x.f1.f2.length c3, .slice A4 x.f1.f3.length c4, .int .i64 x.f2], .pointer (some ⟨g, 0, none⟩)] rfl rfl (by (try simp only [List.map_toArray, List.map_cons, List.map_nil]); first | done | rfl) ?_; refine (is_calls g _ n x A3 A4 c3 c4 HG.out).mono ?_; rintro e wn ⟨rfl, hb⟩; refine ⟨_, rfl, ?_⟩; have n0_ := Aside0.mk (below_step HB.out hb); have n1_ := Aside0.mk (blk_below HG.out hb); clear HB HG hb; have HB := n0_; have HG := n1_; clear n0_ n1_))
        go_roundg (l.length - (i + 1))
        case measure => have := HI.out; omega
        case rel =>
          refine ⟨i + 1, congrArg (Value.int .i64) (by omega), ⟨by omega⟩, ⟨fun j hj hji => ?_⟩, HG, HB⟩
          by_cases ej : j = i
          · subst ej; rw [← HX.out]; exact he
          · exact HN.out j hj (by omega)
    · have b0 : decide ((i : Int) < (l.length : Int)) = false := decide_eq_false (by omega)
      go_wp2
      go_ret
      refine ⟨_, rfl, Or.inl ⟨rfl, fun x hx => ?_⟩, HB.out⟩
      obtain ⟨j, hj, e⟩ := List.mem_iff_getElem.1 hx
      rw [← e]
      exact HN.out j hj (by omega)
set_option maxHeartbeats 800000 in
theorem at_calls (W : World) (A : Option Addr) (c : Nat) (l : List S27) (n : Int) (hC : Kd.C k27 W A l.length l) (hl : l.length ≤ 4611686018427387904) :
    Calls Tryd.prog 20 #[.slice A l.length c, .int .i64 n] W fun e w' => ∃ r, e = .returned (.int .i64 r) ∧ IsIdx l n r ∧ Below W.heap.size W w' := by
  have HR := Aside0.mk hC
  clear hC
  go_enter Tryd.func20, Tryd.ntmps20
  go_wp2_with (first | ((with_reducible refine gate_callee (f := 26) rfl ?_); refine goesL_ (some 7) rfl rfl Tryd.func26 (by kernel_rfl) rfl #[.slice A l.length c, .func (.func 27) #[] #[.pointer (some ⟨W.heap.size, 0, none⟩)]] rfl (by (try simp only [List.map_toArray, List.map_cons, List.map_nil]); first | done | rfl) ?_; refine (index_calls (W.alloc (.cells #[.int .i64 n] 2)) A c l W.heap.size n (Kd.C_alloc HR.out _) hl (blk_new W _)).mono ?_; rintro e wn ⟨r, rfl, hr, hb⟩; refine ⟨_, rfl, ?_⟩; have HI := Aside0.mk hr; have HB := Aside0.mk (below_step (below_alloc (Below.refl W.heap.size W) (.cells #[.int .i64 n] 2)) hb); clear hr hb))
  go_ret
  exact ⟨_, rfl, HI.out, HB.out⟩
/-- The first place of a number, or -1. -/
def idxOf (l : List S27) (n : Int) : Int := if l.findIdx (fun x => x.f0 == n) < l.length then ((l.findIdx (fun x => x.f0 == n) : Nat) : Int) else -1
theorem idxOf_eq {l : List S27} {n r : Int} (h : IsIdx l n r) : r = idxOf l n := by
  unfold idxOf
  rcases h with ⟨rfl, h⟩ | ⟨i, hi, rfl, he, hlt⟩
  · rw [if_neg]
    intro hlt
    have := List.findIdx_getElem (w := hlt)
    exact h _ (List.getElem_mem hlt) (by simpa using this)
  · have e : l.findIdx (fun x => x.f0 == n) = i := by
      rw [List.findIdx_eq hi]
      exact ⟨by simpa using he, fun j hj => by simpa using hlt j (by omega) hj⟩
    rw [e, if_pos hi]
def dead_at.f (l0 : List S27) (a1 : Int) : Option Int := if l0.length ≤ 4611686018427387904 then some (idxOf l0 a1) else none
theorem dead_at.calls (A0 : Option Addr) (c0 : Nat) (l0 : List S27) (a1 : Int) (r : Int) (w : World) (hr0 : Kd.C k27 w A0 l0.length l0) (hc0 : l0.length ≤ c0) (h : dead_at.f l0 a1 = some r) :
    Calls Tryd.prog 20 #[.slice A0 l0.length c0, .int .i64 a1] w fun e w' => e = .returned (.int .i64 r) ∧ Below w.heap.size w w' := by
  unfold dead_at.f at h
  by_cases hl : l0.length ≤ 4611686018427387904
  · rw [if_pos hl] at h
    obtain rfl := Option.some.inj h
    exact (at_calls w A0 c0 l0 a1 hr0 hl).mono fun e w' ⟨x, he, hx, hb⟩ => ⟨by rw [← idxOf_eq hx]; exact he, hb⟩
  · rw [if_neg hl] at h; cases h
theorem slices_Clone_int64_int64_empty {α : Type} (d : Kd α) (e : Nat) (w : World) (base : Nat) (hb : base ≤ w.heap.size) : d.R e (w.alloc (.cells #[] e)) base (fun _ => True) (.slice (some ⟨w.heap.size, 0, none⟩) 0 0) [] := by
  refine ⟨fun _ _ => trivial, [], ⟨by simp, .inr ⟨w.heap.size, 0, #[], rfl, hb, ?_, by simp, by simp, by simp, by simp⟩⟩, Reps.none _ _⟩
  simpa using heap_alloc_new w (.cells #[] e)
def slices_Clone_int64_int64.f (l0 : List Int) : Option (List Int) := if l0.length * 8 ≤ 140737488355328 then some l0 else none
set_option maxHeartbeats 800000 in
theorem slices_Clone_int64_int64.calls (A0 : Option Addr) (c0 : Nat) (l0 : List Int) (r : List Int) (w : World) (hr0 : Kd.C (Kd.int .i64) w A0 l0.length l0) (hc0 : l0.length ≤ c0) (h : slices_Clone_int64_int64.f l0 = some r) :
    Calls Tryd.prog 30 #[.slice A0 l0.length c0] w fun e w' => ∃ v0_ : Value, e = .returned (v0_) ∧ Kd.R (Kd.int .i64) 2 w' w.heap.size (fun _ => True) v0_ r ∧ Below w.heap.size w w' := by
  have hrun := fun (W : World) (a : Option Addr) (n c : Nat) => Lib.run_eql_slice_nil (P := Tryd.prog) W 35 2 a n c 0 0 Tryd.underlying35
  unfold slices_Clone_int64_int64.f at h
  by_cases hb : l0.length * 8 ≤ 140737488355328
  · rw [if_pos hb] at h
    obtain rfl := Option.some.inj h
    clear h
    cases A0 with
    | none =>
      have e0 : l0 = [] := by
        rcases Nat.eq_zero_or_pos l0.length with h0 | h0
        · exact List.length_eq_zero_iff.1 h0
        · obtain ⟨ad, e, _⟩ := hr0.2.2 h0; cases e
      subst e0
      clear hr0
      go_enter Tryd.func30, Tryd.ntmps30
      go_wp2
      go_ret
      exact ⟨_, rfl, Kd.R_nil _ _ _ _ _, Below.refl _ _⟩
    | some ad =>
      have HR := Aside0.mk hr0
      clear hr0
      have HB := Aside0.mk hb
      clear hb
      go_enter Tryd.func30, Tryd.ntmps30
      go_wp2_with (at_builtin; refine Kd.R_append_row (Value.int .i64) 0 (h1 := fun _ => rfl) (w0 := w) w.heap.size rfl (.tmp 5) (.tmp 6) 35 2 (.int .i64 0) 8 rfl Tryd.underlying35 info2 rfl (by decide) (.slice (some ⟨w.heap.size, 0, none⟩) 0 0) [] l0 (some ad) l0.length c0 (fun _ => True) rfl rfl (fun _ _ => trivial) ?aO ?aR ?aB ?aS ?aL ?_)
      case aO => exact slices_Clone_int64_int64_empty _ _ _ _ (Nat.le_refl _)
      case aR => exact Kd.C_below HR.out (below_alloc (Below.refl _ _) _)
      case aB => exact below_alloc (Below.refl _ _) _
      case aS => simp
      case aL => have := HB.out; simp; omega
      intro v1 w1 hR hB hg hat
      have HR1 := Aside0.mk hR
      have HB1 := Aside0.mk hB
      clear hR hB hg hat
      go_wp2
      go_ret
      exact ⟨_, rfl, HR1.out, HB1.out⟩
  · rw [if_neg hb] at h; cases h
def value_Twin.l0 : Nat → List (S37) → List (S37) → Int → Int → Option ((List (S37)))
  | 0, _, _, _, _ => none
  | k + 1, x3, x6, x7, x8 => if x8 < x7 then (if 0 ≤ x8 then (if x8 < (x6.length : Int) then ((slices_Clone_int64_int64.f ((rd_T37 x6 x8).f3)).bind fun t103 => (if x3.length < 2513169434916 then (value_Twin.l0 k (x3 ++ [(⟨(rd_T37 x6 x8).f0, (rd_T37 x6 x8).f1, (rd_T37 x6 x8).f2, t103⟩ : S37)]) x6 x7 (wrap64 (x8 + 1))) else (none))) else (none)) else (none)) else (some x3)
def value_Twin.f (k : Nat) (l0 : List (S37)) : Option ((List (S37))) := value_Twin.l0 k ([] : List (S37)) l0 (l0.length : Int) 0
set_option maxHeartbeats 600000 in
set_option maxRecDepth 100000 in
theorem value_Twin.calls (k : Nat) (A0 : Option Addr) (c0 : Nat) (l0 : List (S37)) (r : List (S37)) (w : World) (hr0 : Kd.C k37 w A0 l0.length l0) (hc0 : l0.length ≤ c0) (h : value_Twin.f k l0 = some r) :
    Calls Tryd.prog 28 #[.slice A0 l0.length c0] w fun e w' => ∃ v0_ : Value, e = .returned (v0_) ∧ Kd.S k37 37 w' w.heap.size (fun _ => True) v0_ r ∧ Below w.heap.size w w' := by
  have hu37 := Tryd.underlying37
  have HR0 := Aside0.mk hr0
  have HC0 := Aside0.mk hc0
  clear hr0 hc0
  have HB := Aside0.mk (Below.refl w.heap.size w)
  have H : (value_Twin.l0 k ([] : List (S37)) l0 (l0.length : Int) 0) = some r := h
  clear h
  have H' := Aside0.mk H
  clear H
  go_enter Tryd.func28, Tryd.ntmps28
  go_wp2
  go_loopg [3, 8] k (fun kq v3 v8 w' => ∃ (x3_1 : List (S37)) (x8_1 : Int), v8 = .int .i64 x8_1 ∧ Aside0 (value_Twin.l0 kq x3_1 l0 (l0.length : Int) x8_1 = some r) ∧ Aside0 (kq ≤ k) ∧ Aside0 (Kd.S k37 37 w' w.heap.size (fun _ => True) v3 x3_1) ∧ Aside0 (Below w.heap.size w w'))
  case atStart => exact ⟨(([] : List (S37))), (0), (by first | rfl | (simp; done) | (simp [*]; done)), H', ⟨Nat.le_refl _⟩, ⟨by first | exact Kd.S_nil _ _ _ _ _ | exact Kd.N_nil _ _ _ _ _ | exact Kd.V_nil _ _ _ _ _ | exact Kd.Q_nil _ _ _ _ _ | exact Kd.R_nil _ _ _ _ _⟩, ⟨by repeat (first | (with_reducible first | exact HB.out | apply below_alloc | apply pw_below_drewN | apply below_drew1) | exact HB.out)⟩⟩
  case round =>
    clear H'
    obtain ⟨x3_1, x8_1, rfl, HA, HK1, HO_3, HB⟩ := hrel
    cases gk with
    | zero => exact absurd HA.out (by simp [value_Twin.l0])
    | succ k1 =>
      have H := HA.out
      clear HA
      simp only [value_Twin.l0] at H
      by_cases c2 : x8_1 < (l0.length : Int)
      · rw [if_pos c2] at H
        have c2b0 : decide (x8_1 < (l0.length : Int)) = true := decide_eq_true c2
        clear c2
        by_cases c3 : 0 ≤ x8_1
        · rw [if_pos c3] at H
          have c3b0 : decide (0 ≤ x8_1) = true := decide_eq_true c3
          clear c3
          by_cases c4 : x8_1 < (l0.length : Int)
          · rw [if_pos c4] at H
            have c4b0 : decide (x8_1 < (l0.length : Int)) = true := decide_eq_true c4
            clear c4
            replace H := Option.bind_eq_some_iff.mp H
            obtain ⟨t103, A50, H⟩ := H
            replace H : (if x3_1.length < 2513169434916 then (value_Twin.l0 k1 (x3_1 ++ [(⟨(rd_T37 l0 x8_1).f0, (rd_T37 l0 x8_1).f1, (rd_T37 l0 x8_1).f2, t103⟩ : S37)]) l0 (l0.length : Int) (wrap64 (x8_1 + 1))) else (none)) = some r := H
            have A5 := Aside0.mk A50
            clear A50
            by_cases c6 : x3_1.length < 2513169434916
            · rw [if_pos c6] at H
              have LMc6 := Aside0.mk c6
              clear c6
              obtain ⟨y106, hy106⟩ : ∃ y_ : List (S37), y_ = (x3_1 ++ [(⟨(rd_T37 l0 x8_1).f0, (rd_T37 l0 x8_1).f1, (rd_T37 l0 x8_1).f2, t103⟩ : S37)]) := ⟨_, rfl⟩
              replace H : (value_Twin.l0 k1 y106 l0 (l0.length : Int) (wrap64 (x8_1 + 1))) = some r := by first | (rw [hy106]; with_reducible exact H) | (have H2_ := (Option.bind_some _ _).symm.trans H; rw [hy106]; with_reducible exact H2_) | (have H2_ := (Option.bind_some _ _).symm.trans H; with_reducible exact H2_) | with_reducible exact H | (rw [hy106]; exact H) | exact H
              have Ny106 := Aside0.mk hy106
              clear hy106
              have H' := Aside0.mk H
              clear H
              have p101 : 0 ≤ (x8_1 : Int) := of_decide_eq_true (by first | (with_reducible assumption) | assumption)
              have q101 : x8_1 < (l0.length : Int) := of_decide_eq_true (by first | (with_reducible assumption) | assumption)
              obtain ⟨ad101, A101_3, c101_3, e101, hx101_0, hx101_1, hx101_2, hx101_3, hl101_3, hi101_3⟩ := at_T37 HR0.out x8_1 p101 q101
              cases e101
              replace hx101_0 := (HB.out.cell (World.block_lt_of_cell? w _ hx101_0)).trans hx101_0
              replace hx101_1 := (HB.out.cell (World.block_lt_of_cell? w _ hx101_1)).trans hx101_1
              replace hx101_2 := (HB.out.cell (World.block_lt_of_cell? w _ hx101_2)).trans hx101_2
              replace hx101_3 := (HB.out.cell (World.block_lt_of_cell? w _ hx101_3)).trans hx101_3
              have HR101_3 := Aside0.mk hi101_3
              have HC101_3 := Aside0.mk hl101_3
              clear hi101_3 hl101_3
              replace p101 := eq_true p101
              replace q101 := eq_true q101
              go_wp2_with (first | ((with_reducible refine gate_dst (N := 5) rfl ?_); refine box_event ?hg (N := 5) ?hd (cs := #[.int .i64 0, .int .i64 0, .string (⟨#[]⟩ : ByteArray), .slice none 0 0]) (t := 37) ?hr ?_; (case hd => rfl); (case hg => rfl); (case hr => first | (go_simp; done) | (go_simp; rfl)); intro gb102 hg w7 hbox hb; have n0_ := Aside0.mk (Kd.S_below (Kd.S_elderB (by (with_reducible repeat (first | apply Kd.S_alloc | apply Kd.S_drewN | apply Kd.S_drew)); exact HO_3.out) gb102 (Nat.le_of_eq hg.symm)) hb); have n1_ := Aside0.mk (below_step (by repeat (first | (with_reducible first | exact HB.out | apply below_alloc | apply pw_below_drewN | apply below_drew1) | exact HB.out)) hb); have n2_ := Aside0.mk (hbox); have n3_ := Aside0.mk ((by rw [hg]; exact (below_size (by repeat (first | (with_reducible first | exact HB.out | apply below_alloc | apply pw_below_drewN | apply below_drew1) | exact HB.out))) : w.heap.size ≤ gb102)); have n4_ := Aside0.mk ((by rw [hg]; exact (below_size (by repeat (first | (with_reducible first | exact HB.out | apply below_alloc | apply pw_below_drewN | apply below_drew1) | exact HB.out))) : w.heap.size ≤ gb102)); clear HO_3; clear HB; have HO_3 := n0_; have HB := n1_; have BK102 := n2_; have GW102 := n3_; have GE102 := n4_; clear n0_ n1_ n2_ n3_ n4_; clear hb hbox hg; have hcz8_0 : w7.cell? ⟨gb102, 0, none⟩ = some (.int .i64 0) := (blk_cell BK102.out 0).trans rfl; have hcz8_1 : w7.cell? ⟨gb102, 1, none⟩ = some (.int .i64 0) := (blk_cell BK102.out 1).trans rfl; have hcz8_2 : w7.cell? ⟨gb102, 2, none⟩ = some (.string (⟨#[]⟩ : ByteArray)) := (blk_cell BK102.out 2).trans rfl; have hcz8_3 : w7.cell? ⟨gb102, 3, none⟩ = some (.slice none 0 0) := (blk_cell BK102.out 3).trans rfl; have hfz8_0 := blk_frozen BK102.out 0; have hfz8_1 := blk_frozen BK102.out 1; have hfz8_2 := blk_frozen BK102.out 2; have hfz8_3 := blk_frozen BK102.out 3) | ((with_reducible refine gate_callee (f := 30) rfl ?_); refine goesL_ (some 14) rfl rfl Tryd.func30 (by kernel_rfl) rfl #[.slice A101_3 ((rd_T37 l0 x8_1).f3).length c101_3] rfl (by (try simp only [List.map_toArray, List.map_cons, List.map_nil]); first | done | rfl | (simp only [List.length_drop, List.length_take]; rfl)) ?_; (with_reducible refine (slices_Clone_int64_int64.calls _ _ ((rd_T37 l0 x8_1).f3) t103 _ ?side1 ?side2 A5.out).mono ?_); (case side1 => exact Kd.C_below HR101_3.out (by repeat (first | (with_reducible first | exact HB.out | apply below_alloc | apply pw_below_drewN | apply below_drew1 | refine below_set ?_ GE102.out) | exact HB.out))); (case side2 => exact HC101_3.out); rintro e w9 ⟨v104, rfl, ho0, hb⟩; refine ⟨_, rfl, ?_⟩; have n0_ := Aside0.mk (Kd.S_elder' (by (with_reducible repeat (first | apply Kd.S_alloc | apply Kd.S_drewN | apply Kd.S_drew)); exact (Kd.S_mono (Kd.S_far (p := ⟨gb102, 3, none⟩) (Kd.S_far (p := ⟨gb102, 2, none⟩) (Kd.S_far (p := ⟨gb102, 1, none⟩) (Kd.S_far (p := ⟨gb102, 0, none⟩) (Kd.S_mono HO_3.out (fun k_ hk => (⟨hk, hk.2⟩ : _ ∧ k_ ≠ gb102))) (fun _ hk => hk.2) (.int .i64 ((rd_T37 l0 x8_1).f0))) (fun _ hk => hk.2) (.int .i64 ((rd_T37 l0 x8_1).f1))) (fun _ hk => hk.2) (.string ((rd_T37 l0 x8_1).f2))) (fun _ hk => hk.2) (.slice A101_3 ((rd_T37 l0 x8_1).f3).length c101_3)) (fun _ h_ => h_.1))) (Kd.R_base ho0) hb); have n1_ := Aside0.mk (Kd.R_lower ho0 (below_size (by repeat (first | (with_reducible first | exact HB.out | apply below_alloc | apply pw_below_drewN | apply below_drew1 | refine below_set ?_ GE102.out) | exact HB.out)))); have n2_ := Aside0.mk (blk_below (g := gb102) (o := .cells #[.int .i64 ((rd_T37 l0 x8_1).f0), .int .i64 ((rd_T37 l0 x8_1).f1), .string ((rd_T37 l0 x8_1).f2), .slice A101_3 ((rd_T37 l0 x8_1).f3).length c101_3] 37 (0, 0)) (by (with_reducible repeat (first | refine blk_drewN ?_ _ | refine blk_drew ?_ | refine blk_alloc ?_ _)); refine blk_put (cs := #[.int .i64 ((rd_T37 l0 x8_1).f0), .int .i64 ((rd_T37 l0 x8_1).f1), .string ((rd_T37 l0 x8_1).f2), .slice none 0 0]) ?_ 3 _ rfl; (with_reducible repeat (first | refine blk_drewN ?_ _ | refine blk_drew ?_ | refine blk_alloc ?_ _)); refine blk_put (cs := #[.int .i64 ((rd_T37 l0 x8_1).f0), .int .i64 ((rd_T37 l0 x8_1).f1), .string (⟨#[]⟩ : ByteArray), .slice none 0 0]) ?_ 2 _ rfl; (with_reducible repeat (first | refine blk_drewN ?_ _ | refine blk_drew ?_ | refine blk_alloc ?_ _)); refine blk_put (cs := #[.int .i64 ((rd_T37 l0 x8_1).f0), .int .i64 0, .string (⟨#[]⟩ : ByteArray), .slice none 0 0]) ?_ 1 _ rfl; (with_reducible repeat (first | refine blk_drewN ?_ _ | refine blk_drew ?_ | refine blk_alloc ?_ _)); refine blk_put (cs := #[.int .i64 0, .int .i64 0, .string (⟨#[]⟩ : ByteArray), .slice none 0 0]) ?_ 0 _ rfl; (with_reducible repeat (first | refine blk_drewN ?_ _ | refine blk_drew ?_ | refine blk_alloc ?_ _)); exact BK102.out) hb); have n3_ := Aside0.mk (below_step (by repeat (first | (with_reducible first | exact HB.out | apply below_alloc | apply pw_below_drewN | apply below_drew1 | refine below_set ?_ GE102.out) | exact HB.out)) hb); clear HO_3; clear BK102; clear HB; have HO_3 := n0_; have HO105 := n1_; have BK102 := n2_; have HB := n3_; clear n0_ n1_ n2_ n3_; (try clear hb); (try clear hb2); (try clear hk); (try clear hi); (try clear ho0); obtain ⟨Ao10, co10, eo10⟩ := Kd.R_slice HO105.out; subst eo10; have hcz11_0 : w9.cell? ⟨gb102, 0, none⟩ = some (.int .i64 ((rd_T37 l0 x8_1).f0)) := (blk_cell BK102.out 0).trans rfl; have hcz11_1 : w9.cell? ⟨gb102, 1, none⟩ = some (.int .i64 ((rd_T37 l0 x8_1).f1)) := (blk_cell BK102.out 1).trans rfl; have hcz11_2 : w9.cell? ⟨gb102, 2, none⟩ = some (.string ((rd_T37 l0 x8_1).f2)) := (blk_cell BK102.out 2).trans rfl; have hcz11_3 : w9.cell? ⟨gb102, 3, none⟩ = some (.slice A101_3 ((rd_T37 l0 x8_1).f3).length c101_3) := (blk_cell BK102.out 3).trans rfl; have hfz11_0 := blk_frozen BK102.out 0; have hfz11_1 := blk_frozen BK102.out 1; have hfz11_2 := blk_frozen BK102.out 2; have hfz11_3 := blk_frozen BK102.out 3) | ((with_reducible refine gate_store (t := 35) (p := 15) rfl ?_); refine store_event (t := 35) (p := 15) (v := ?vo_w12) (w1 := (w9.setCell ⟨gb102, 3, none⟩ (.slice Ao10 t103.length co10))) ?hg ?ho ?hn ?hr ?_; (case ho => rfl); (case hg => rfl); (case hn => rfl); (case hr => first | (go_simp; done) | (go_simp; rfl)); intro w12 hw; have n0_ : Aside0 (Kd.S k37 37 w12 w.heap.size (fun k_ => some k_ ≠ (.slice Ao10 t103.length co10 : Value).ownBlock ∧ k_ ≠ gb102) u3 x3_1) := ⟨(by rw [hw]; exact (by (with_reducible repeat (first | apply Kd.S_alloc | apply Kd.S_drewN | apply Kd.S_drew)); exact Kd.S_mono (Kd.S_far (p := ⟨gb102, 3, none⟩) (Kd.S_mono HO_3.out (fun k_ hk => (⟨hk, hk.1.2⟩ : _ ∧ k_ ≠ gb102))) (fun _ hk => hk.2) (.slice Ao10 t103.length co10)) (fun _ hk => ⟨hk.1.2, hk.1.1.2⟩)))⟩; have n1_ : Aside0 (Kd.R (Kd.int .i64) 2 w12 w.heap.size (fun _ => True) (.slice Ao10 t103.length co10) t103) := ⟨(by rw [hw]; exact (by (with_reducible repeat (first | apply Kd.R_alloc | apply Kd.R_drewN | apply Kd.R_drew)); exact Kd.R_mono (Kd.R_far (p := ⟨gb102, 3, none⟩) (Kd.R_types HO105.out BK102.out (by decide)) (fun _ hk => hk.2) (.slice Ao10 t103.length co10)) (fun _ hk => trivial)))⟩; have n2_ : Aside0 (w12.heap[gb102]? = some (.cells #[.int .i64 ((rd_T37 l0 x8_1).f0), .int .i64 ((rd_T37 l0 x8_1).f1), .string ((rd_T37 l0 x8_1).f2), .slice Ao10 t103.length co10] 37 (0, 0))) := ⟨(by rw [hw]; exact (by (with_reducible repeat (first | refine blk_drewN ?_ _ | refine blk_drew ?_ | refine blk_alloc ?_ _)); refine blk_put (cs := #[.int .i64 ((rd_T37 l0 x8_1).f0), .int .i64 ((rd_T37 l0 x8_1).f1), .string ((rd_T37 l0 x8_1).f2), .slice A101_3 ((rd_T37 l0 x8_1).f3).length c101_3]) ?_ 3 _ rfl; (with_reducible repeat (first | refine blk_drewN ?_ _ | refine blk_drew ?_ | refine blk_alloc ?_ _)); exact BK102.out))⟩; have n3_ : Aside0 (Below w.heap.size w w12) := ⟨(by rw [hw]; exact (by repeat (first | (with_reducible first | exact HB.out | apply below_alloc | apply pw_below_drewN | apply below_drew1 | refine below_set ?_ GE102.out) | exact HB.out)))⟩; clear hw; clear HO_3; clear HO105; clear BK102; clear HB; have HO_3 := n0_; have HO105 := n1_; have BK102 := n2_; have HB := n3_; clear n0_ n1_ n2_ n3_; have hcz13_0 : w12.cell? ⟨gb102, 0, none⟩ = some (.int .i64 ((rd_T37 l0 x8_1).f0)) := (blk_cell BK102.out 0).trans rfl; have hcz13_1 : w12.cell? ⟨gb102, 1, none⟩ = some (.int .i64 ((rd_T37 l0 x8_1).f1)) := (blk_cell BK102.out 1).trans rfl; have hcz13_2 : w12.cell? ⟨gb102, 2, none⟩ = some (.string ((rd_T37 l0 x8_1).f2)) := (blk_cell BK102.out 2).trans rfl; have hcz13_3 : w12.cell? ⟨gb102, 3, none⟩ = some (.slice Ao10 t103.length co10) := (blk_cell BK102.out 3).trans rfl; have hfz13_0 := blk_frozen BK102.out 0; have hfz13_1 := blk_frozen BK102.out 1; have hfz13_2 := blk_frozen BK102.out 2; have hfz13_3 := blk_frozen BK102.out 3) | ((with_reducible refine gate_builtin (b := .append) (xs := #[.tmp 16, .tmp 18]) rfl ?_); at_builtin; refine Kd.S_append k37 (w0 := w) w.heap.size rfl (.tmp 16) (.tmp 18) 23 37 (.agg #[(.int .i64 0), (.int .i64 0), (.string ⟨#[]⟩), (.slice none 0 0)]) 56 rfl Tryd.underlying23 info37 rfl (by decide) (by omega) u3 x3_1 (⟨(rd_T37 l0 x8_1).f0, (rd_T37 l0 x8_1).f1, (rd_T37 l0 x8_1).f2, t103⟩ : S37) [.int .i64 ((rd_T37 l0 x8_1).f0), .int .i64 ((rd_T37 l0 x8_1).f1), .string ((rd_T37 l0 x8_1).f2), .slice Ao10 t103.length co10] (fun k_ => k_ ≠ gb102) (fun k_ => some k_ = (.slice Ao10 t103.length co10 : Value).ownBlock) rfl rfl ?aP (fun k_ hk_ => ((Kd.R_mono (ok' := fun k_ => ((fun k_ => k_ ≠ gb102)) k_ ∧ some k_ ≠ (u3 : Value).ownBlock) (Kd.R_types (Kd.R_apart' (HO105.out) (Kd.S_typed HO_3.out) (by decide)) BK102.out (by decide)) (fun k_ hk => ⟨hk.2, hk.1.2⟩))).1 k_ hk_.symm) ?aF ?aO ?aB ?aS ?aL ?_; (case aP => exact k37_mkM _ _ _ (⟨(rd_T37 l0 x8_1).f0, (rd_T37 l0 x8_1).f1, (rd_T37 l0 x8_1).f2, t103⟩ : S37) (Kd.R_mono (Kd.R_tight rfl (Kd.R_mono (ok' := fun k_ => ((fun k_ => k_ ≠ gb102)) k_ ∧ some k_ ≠ (u3 : Value).ownBlock) (Kd.R_types (Kd.R_apart' (HO105.out) (Kd.S_typed HO_3.out) (by decide)) BK102.out (by decide)) (fun k_ hk => ⟨hk.2, hk.1.2⟩))) (fun _ h_ => h_))); (case aB => exact (by repeat (first | (with_reducible first | exact HB.out | apply below_alloc | apply pw_below_drewN | apply below_drew1 | refine below_set ?_ GE102.out) | exact HB.out))); (case aF => exact (fun k_ hk => Kd.freshB (g := gb102) (o := .cells #[.int .i64 ((rd_T37 l0 x8_1).f0), .int .i64 ((rd_T37 l0 x8_1).f1), .string ((rd_T37 l0 x8_1).f2), .slice Ao10 t103.length co10] 37 (0, 0)) (by (with_reducible repeat (first | refine blk_drewN ?_ _ | refine blk_drew ?_ | refine blk_alloc ?_ _)); exact BK102.out) k_ hk)); (case aO => exact (by (with_reducible repeat (first | apply Kd.S_alloc | apply Kd.S_drewN | apply Kd.S_drew)); exact Kd.S_mono HO_3.out (fun k_ hk => ⟨hk.2, fun e_ => hk.1 e_⟩))); (case aS => exact (below_size (by repeat (first | (with_reducible first | exact HB.out | apply below_alloc | apply pw_below_drewN | apply below_drew1 | refine below_set ?_ GE102.out) | exact HB.out)))); (case aL => have := LMc6.out; omega); intro v107 w14 ho hb hg hat; rw [← Ny106.out] at ho; have n0_ := Aside0.mk (blk_grown (g := gb102) (o := .cells #[.int .i64 ((rd_T37 l0 x8_1).f0), .int .i64 ((rd_T37 l0 x8_1).f1), .string ((rd_T37 l0 x8_1).f2), .slice Ao10 t103.length co10] 37 (0, 0)) (by (with_reducible repeat (first | refine blk_drewN ?_ _ | refine blk_drew ?_ | refine blk_alloc ?_ _)); exact BK102.out) hg (Kd.S_away HO_3.out (fun _ hk => hk.2))); have n1_ := Aside0.mk (hb); have n2_ := Aside0.mk (ho); clear BK102; clear HB; clear HO_3; clear HO105; have BK102 := n0_; have HB := n1_; have HO108 := n2_; clear n0_ n1_ n2_; clear ho hb hg hat))
              go_roundg k1
              case measure => have := HK1.out; omega
              case rel => exact ⟨(y106), (wrap64 (x8_1 + 1)), (by first | rfl | (simp; done) | (simp [*]; done)), H', ⟨by have := HK1.out; omega⟩, ⟨by (with_reducible repeat (first | apply Kd.S_alloc | apply Kd.S_drewN | apply Kd.S_drew)); exact Kd.S_mono HO108.out (fun _ hk => trivial)⟩, ⟨by repeat (first | (with_reducible first | exact HB.out | apply below_alloc | apply pw_below_drewN | apply below_drew1 | refine below_set ?_ GE102.out) | exact HB.out)⟩⟩
            · rw [if_neg c6] at H
              exact absurd H (by simp)
          · rw [if_neg c4] at H
            exact absurd H (by simp)
        · rw [if_neg c3] at H
          exact absurd H (by simp)
      · rw [if_neg c2] at H
        have c2b0 : decide (x8_1 < (l0.length : Int)) = false := decide_eq_false c2
        clear c2
        obtain rfl := Option.some.inj H
        go_wp2
        go_ret
        exact ⟨_, by first | rfl | (simp [errW_none, errW_some] <;> rfl) | (simp [*, errW_none, errW_some] <;> rfl), by (with_reducible repeat (first | apply Kd.S_alloc | apply Kd.S_drewN | apply Kd.S_drew)); exact HO_3.out, by repeat (first | (with_reducible first | exact HB.out | apply below_alloc | apply pw_below_drewN | apply below_drew1) | exact HB.out)⟩
def dead_twin.f (k : Nat) (a0_0 : Int) (a0_1 : Int) (a0_2 : ByteArray) (l0_3 : List (S37)) (l0_4 : List (S37)) (a0_5 : Int) : Option (Int × Int × ByteArray × (List (S37)) × (List (S37)) × Int) := (value_Twin.f k l0_3).bind fun t111 => ((value_Twin.f k l0_4).bind fun t114 => (some (a0_0, a0_1, a0_2, t111, t114, a0_5)))
def dead_twin.T1 : Bool × List (List Nat × List Nat) := (true, [([], []), ([0], [0]), ([1], [1]), ([2], [2]), ([], []), ([4], [4]), ([5], [5]), ([6, 3], [6]), ([0, 1, 2, 3, 4, 5, 6], []), ([8, 0, 1, 2, 3, 4, 5, 6], [8]), ([9, 3, 7, 0, 1, 2, 3, 4, 5, 6], [3, 9]), ([0, 1, 2, 3, 4, 5, 6, 7, 8, 9, 10], []), ([11, 0, 1, 2, 3, 4, 5, 6, 7, 8, 9, 10], [11]), ([12, 7, 10, 0, 1, 2, 3, 4, 5, 6, 7, 8, 9, 10], [7, 12])])
def dead_twin.B1 : List Nat := [0, 1, 3, 7, 0, 16, 48, 127, 127, 383, 1023, 2047, 4095, 8191]
theorem dead_twin.tab1 : rtab .any (opsOf Tryd.f23 1) = dead_twin.T1 := by kernel_rfl
theorem dead_twin.bits1 : waitsOk dead_twin.T1.2 dead_twin.B1 = true := by kernel_rfl
set_option maxHeartbeats 600000 in
set_option maxRecDepth 100000 in
theorem dead_twin.calls (k : Nat) (a0_0 : Int) (a0_1 : Int) (a0_2 : ByteArray) (A0_3 : Option Addr) (c0_3 : Nat) (l0_3 : List (S37)) (A0_4 : Option Addr) (c0_4 : Nat) (l0_4 : List (S37)) (a0_5 : Int) (r1 : Int) (r2 : Int) (r3 : ByteArray) (r4 : List (S37)) (r5 : List (S37)) (r6 : Int) (w : World) (hr0_3 : Kd.C k37 w A0_3 l0_3.length l0_3) (hc0_3 : l0_3.length ≤ c0_3) (hr0_4 : Kd.C k37 w A0_4 l0_4.length l0_4) (hc0_4 : l0_4.length ≤ c0_4) (h : dead_twin.f k a0_0 a0_1 a0_2 l0_3 l0_4 a0_5 = some (r1, r2, r3, r4, r5, r6)) :
    Calls Tryd.prog 23 #[.agg #[.int .i64 a0_0, .int .i64 a0_1, .string a0_2, .slice A0_3 l0_3.length c0_3, .slice A0_4 l0_4.length c0_4, .int .i64 a0_5]] w fun e w' => ∃ v3_ v4_ : Value, e = .returned (.agg #[.int .i64 r1, .int .i64 r2, .string r3, v3_, v4_, .int .i64 r6]) ∧ Kd.S k37 37 w' w.heap.size (fun k_ => some k_ ≠ (v4_ : Value).ownBlock) v3_ r4 ∧ Kd.S k37 37 w' w.heap.size (fun k_ => some k_ ≠ (v3_ : Value).ownBlock) v4_ r5 ∧ Below w.heap.size w w' := by
  have hu27 := Tryd.underlying27
  have HR0_3 := Aside0.mk hr0_3
  have HC0_3 := Aside0.mk hc0_3
  clear hr0_3 hc0_3
  have HR0_4 := Aside0.mk hr0_4
  have HC0_4 := Aside0.mk hc0_4
  clear hr0_4 hc0_4
  have HB := Aside0.mk (Below.refl w.heap.size w)
  have H : ((value_Twin.f k l0_3).bind fun t111 => ((value_Twin.f k l0_4).bind fun t114 => (some (a0_0, a0_1, a0_2, t111, t114, a0_5)))) = some (r1, r2, r3, r4, r5, r6) := h
  clear h
  replace H := Option.bind_eq_some_iff.mp H
  obtain ⟨t111, A20, H⟩ := H
  replace H : ((value_Twin.f k l0_4).bind fun t114 => (some (a0_0, a0_1, a0_2, t111, t114, a0_5))) = some (r1, r2, r3, r4, r5, r6) := H
  have A2 := Aside0.mk A20
  clear A20
  replace H := Option.bind_eq_some_iff.mp H
  obtain ⟨t114, A30, H⟩ := H
  replace H : (some (a0_0, a0_1, a0_2, t111, t114, a0_5)) = some (r1, r2, r3, r4, r5, r6) := H
  have A3 := Aside0.mk A30
  clear A30
  simp only [Option.some.injEq, Prod.mk.injEq] at H
  obtain ⟨rfl, rfl, rfl, rfl, rfl, rfl⟩ := H
  go_enter Tryd.func23, Tryd.ntmps23
  try go_wp2_with (first | ((with_reducible refine gate_dst (N := 1) rfl ?_); refine box_event ?hg (N := 1) ?hd (cs := #[.int .i64 a0_0, .int .i64 a0_1, .string a0_2, .slice A0_3 l0_3.length c0_3, .slice A0_4 l0_4.length c0_4, .int .i64 a0_5]) (t := 27) ?hr ?_; (case hd => rfl); (case hg => rfl); (case hr => first | (go_simp; done) | (go_simp; rfl)); intro gb109 hg w4 hbox hb; have n0_ := Aside0.mk (below_step (by repeat (first | (with_reducible first | exact HB.out | apply below_alloc | apply pw_below_drewN | apply below_drew1) | exact HB.out)) hb); have n1_ := Aside0.mk (hbox); have n2_ := Aside0.mk ((by rw [hg]; exact (below_size (by repeat (first | (with_reducible first | exact HB.out | apply below_alloc | apply pw_below_drewN | apply below_drew1) | exact HB.out))) : w.heap.size ≤ gb109)); have n3_ := Aside0.mk ((by rw [hg]; exact (below_size (by repeat (first | (with_reducible first | exact HB.out | apply below_alloc | apply pw_below_drewN | apply below_drew1) | exact HB.out))) : w.heap.size ≤ gb109)); clear HB; have HB := n0_; have BK109 := n1_; have GW109 := n2_; have GE109 := n3_; clear n0_ n1_ n2_ n3_; clear hb hbox hg) | ((with_reducible refine gate_dst (N := 2) rfl ?_); refine box_event ?hg (N := 2) ?hd (cs := #[.int .i64 0, .int .i64 0, .string (⟨#[]⟩ : ByteArray), .slice none 0 0, .slice none 0 0, .int .i64 0]) (t := 27) ?hr ?_; (case hd => rfl); (case hg => rfl); (case hr => first | (go_simp; done) | (go_simp; rfl)); intro gb110 hg w5 hbox hb; have n0_ := Aside0.mk (blk_below (g := gb109) (o := .cells #[.int .i64 a0_0, .int .i64 a0_1, .string a0_2, .slice A0_3 l0_3.length c0_3, .slice A0_4 l0_4.length c0_4, .int .i64 a0_5] 27 (0, 0)) (by (with_reducible repeat (first | refine blk_drewN ?_ _ | refine blk_drew ?_ | refine blk_alloc ?_ _)); exact BK109.out) hb); have n1_ := Aside0.mk (below_step (by repeat (first | (with_reducible first | exact HB.out | apply below_alloc | apply pw_below_drewN | apply below_drew1 | refine below_set ?_ GE109.out) | exact HB.out)) hb); have n2_ := Aside0.mk (hbox); have n3_ := Aside0.mk ((by rw [hg]; exact (below_size (by repeat (first | (with_reducible first | exact HB.out | apply below_alloc | apply pw_below_drewN | apply below_drew1 | refine below_set ?_ GE109.out) | exact HB.out))) : w.heap.size ≤ gb110)); have n4_ := Aside0.mk ((by rw [hg]; exact (below_size (by repeat (first | (with_reducible first | exact HB.out | apply below_alloc | apply pw_below_drewN | apply below_drew1 | refine below_set ?_ GE109.out) | exact HB.out))) : w.heap.size ≤ gb110)); have n5_ := Aside0.mk ((by rw [hg]; exact Nat.ne_of_lt (blk_lt (g := gb109) (o := .cells #[.int .i64 a0_0, .int .i64 a0_1, .string a0_2, .slice A0_3 l0_3.length c0_3, .slice A0_4 l0_4.length c0_4, .int .i64 a0_5] 27 (0, 0)) (by (with_reducible repeat (first | refine blk_drewN ?_ _ | refine blk_drew ?_ | refine blk_alloc ?_ _)); exact BK109.out)) : gb109 ≠ gb110)); have n6_ := Aside0.mk ((by rw [hg]; exact Nat.ne_of_gt (blk_lt (g := gb109) (o := .cells #[.int .i64 a0_0, .int .i64 a0_1, .string a0_2, .slice A0_3 l0_3.length c0_3, .slice A0_4 l0_4.length c0_4, .int .i64 a0_5] 27 (0, 0)) (by (with_reducible repeat (first | refine blk_drewN ?_ _ | refine blk_drew ?_ | refine blk_alloc ?_ _)); exact BK109.out)) : gb110 ≠ gb109)); clear BK109; clear HB; have BK109 := n0_; have HB := n1_; have BK110 := n2_; have GW110 := n3_; have GE110 := n4_; have NB109_110 := n5_; have NB110_109 := n6_; clear n0_ n1_ n2_ n3_ n4_ n5_ n6_; clear hb hbox hg))
  have n0_ := Aside0.mk (blk_drew BK109.out)
  have n1_ := Aside0.mk (blk_drew BK110.out)
  have n2_ := Aside0.mk (below_drew1 HB.out)
  clear BK109
  clear BK110
  clear HB
  have BK109 := n0_
  have BK110 := n1_
  have HB := n2_
  clear n0_ n1_ n2_
  refine start_ (n := 14) (S := fun w' => w'.cell? ⟨gb109, 0, none⟩ = some (.int .i64 a0_0) ∧ w'.cell? ⟨gb109, 1, none⟩ = some (.int .i64 a0_1) ∧ w'.cell? ⟨gb109, 2, none⟩ = some (.string a0_2) ∧ w'.cell? ⟨gb109, 3, none⟩ = some (.slice A0_3 l0_3.length c0_3) ∧ w'.cell? ⟨gb109, 4, none⟩ = some (.slice A0_4 l0_4.length c0_4) ∧ w'.cell? ⟨gb109, 5, none⟩ = some (.int .i64 a0_5)) (ds := [10, 13]) #[false, false, false, false, false, false, false, false, false, false, false, false, false, false] (by kernel_rfl) rfl rfl ⟨(blk_cell BK109.out 0).trans rfl, (blk_cell BK109.out 1).trans rfl, (blk_cell BK109.out 2).trans rfl, (blk_cell BK109.out 3).trans rfl, (blk_cell BK109.out 4).trans rfl, (blk_cell BK109.out 5).trans rfl⟩ (fun hHeld => ?_); refine with_tabW dead_twin.tab1 dead_twin.bits1 (fun HT_ HW_ => ?_)
  generalize w5.drew = w6 at BK109 BK110 HB hHeld ⊢
  refine pure_ (i := 0) (N := some 3) (v := ?_) (a' := ?_) #[true, false, false, false, false, false, false, false, false, false, false, false, false, false] rfl rfl (any_of HT_.out (by kernel_rfl)) (fun _ _ _ h => h) (Or.inl ⟨by rfl, ?_⟩) ?_ ?_
  rotate_left
  · intro w'
    go_simp
    with_reducible rfl
  rotate_left
  · simp only [Act.put, List.setIfInBounds_toArray, List.set_cons_zero, List.set_cons_succ, i64_w, i32_w]
    rfl
  refine pure_ (i := 1) (N := some 4) (v := ?_) (a' := ?_) #[true, true, false, false, false, false, false, false, false, false, false, false, false, false] rfl rfl (any_of HT_.out (by kernel_rfl)) (fun _ _ _ h => h) (Or.inl ⟨by rfl, ?_⟩) ?_ ?_
  rotate_left
  · intro w'
    go_simp
    with_reducible rfl
  rotate_left
  · simp only [Act.put, List.setIfInBounds_toArray, List.set_cons_zero, List.set_cons_succ, i64_w, i32_w]
    rfl
  refine pure_ (i := 4) (N := some 7) (v := ?_) (a' := ?_) #[true, true, false, false, true, false, false, false, false, false, false, false, false, false] rfl rfl (any_of HT_.out (by kernel_rfl)) (fun _ _ _ h => h) (Or.inl ⟨by rfl, ?_⟩) ?_ ?_
  rotate_left
  · intro w'
    go_simp
    with_reducible rfl
  rotate_left
  · simp only [Act.put, List.setIfInBounds_toArray, List.set_cons_zero, List.set_cons_succ, i64_w, i32_w]
    rfl
  refine pure_ (i := 5) (N := some 8) (v := ?_) (a' := ?_) #[true, true, false, false, true, true, false, false, false, false, false, false, false, false] rfl rfl (any_of HT_.out (by kernel_rfl)) (fun _ _ _ h => h) (Or.inl ⟨by rfl, ?_⟩) ?_ ?_
  rotate_left
  · intro w'
    go_simp
    with_reducible rfl
  rotate_left
  · simp only [Act.put, List.setIfInBounds_toArray, List.set_cons_zero, List.set_cons_succ, i64_w, i32_w]
    rfl
  refine take_ (i := 2) (N := some 5) (v := ?_) (a' := ?_) #[true, true, true, false, true, true, false, false, false, false, false, false, false, false] rfl rfl (take_ofW HT_.out HW_.out (by kernel_rfl)) (fun _ _ _ h => h) (Or.inl ⟨by rfl, ?_⟩) hHeld ?_ ?_
  rotate_left
  · rintro w' ⟨s0, s1, s2, s3, s4, s5⟩
    go_simp
    with_reducible rfl
  rotate_left
  · simp only [Act.put, List.setIfInBounds_toArray, List.set_cons_zero, List.set_cons_succ, i64_w, i32_w]
    rfl
  refine take_ (i := 6) (N := some 9) (v := ?_) (a' := ?_) #[true, true, true, false, true, true, true, false, false, false, false, false, false, false] rfl rfl (take_ofW HT_.out HW_.out (by kernel_rfl)) (fun _ _ _ h => h) (Or.inl ⟨by rfl, ?_⟩) hHeld ?_ ?_
  rotate_left
  · rintro w' ⟨s0, s1, s2, s3, s4, s5⟩
    go_simp
    with_reducible rfl
  rotate_left
  · simp only [Act.put, List.setIfInBounds_toArray, List.set_cons_zero, List.set_cons_succ, i64_w, i32_w]
    rfl
  refine one_ (i := 3) (N := some 6) #[true, true, true, true, true, true, true, false, false, false, false, false, false, false] rfl rfl (one_of HT_.out (by kernel_rfl)) (by decide) (fun K hK => ?_)
  refine goes_ Tryd.func28 (by kernel_rfl) rfl #[.slice A0_3 l0_3.length c0_3] (by rfl) rfl rfl (by (try simp only [List.map_toArray, List.map_cons, List.map_nil]); first | done | rfl | (simp only [List.length_drop, List.length_take]; rfl)) ?_
  with_reducible refine (value_Twin.calls k _ _ l0_3 t111 _ ?side1 ?side2 A2.out).mono ?_
  (case side1 => repeat (first | exact (Kd.C_below HR0_3.out HB.out) | (with_reducible refine Kd.C_alloc ?_ _) | (with_reducible refine Kd.C_drewN ?_ _) | (with_reducible refine Kd.C_drew ?_)))
  (case side2 => exact HC0_3.out)
  rintro e w7 ⟨v112, rfl, ho0, hb⟩
  refine ⟨_, rfl, ?_⟩
  have n0_ := Aside0.mk (Kd.S_lower ho0 (below_size (by repeat (first | (with_reducible first | exact HB.out | apply below_alloc | apply pw_below_drewN | apply below_drew1 | refine below_set ?_ GE109.out | refine below_set ?_ GE110.out) | exact HB.out))))
  have n1_ := Aside0.mk (blk_below (g := gb109) (o := .cells #[.int .i64 a0_0, .int .i64 a0_1, .string a0_2, .slice A0_3 l0_3.length c0_3, .slice A0_4 l0_4.length c0_4, .int .i64 a0_5] 27 (0, 0)) (by (with_reducible repeat (first | refine blk_drewN ?_ _ | refine blk_drew ?_ | refine blk_alloc ?_ _)); exact BK109.out) hb)
  have n2_ := Aside0.mk (blk_below (g := gb110) (o := .cells #[.int .i64 0, .int .i64 0, .string (⟨#[]⟩ : ByteArray), .slice none 0 0, .slice none 0 0, .int .i64 0] 27 (0, 0)) (by (with_reducible repeat (first | refine blk_drewN ?_ _ | refine blk_drew ?_ | refine blk_alloc ?_ _)); exact BK110.out) hb)
  have n3_ := Aside0.mk (below_step (by repeat (first | (with_reducible first | exact HB.out | apply below_alloc | apply pw_below_drewN | apply below_drew1 | refine below_set ?_ GE109.out | refine below_set ?_ GE110.out) | exact HB.out)) hb)
  clear BK109
  clear BK110
  clear HB
  have HO113 := n0_
  have BK109 := n1_
  have BK110 := n2_
  have HB := n3_
  clear n0_ n1_ n2_ n3_
  (try clear hb)
  (try clear hb2)
  (try clear hk)
  (try clear hi)
  (try clear ho0)
  refine hK.out _ _ ⟨(blk_cell BK109.out 0).trans rfl, (blk_cell BK109.out 1).trans rfl, (blk_cell BK109.out 2).trans rfl, (blk_cell BK109.out 3).trans rfl, (blk_cell BK109.out 4).trans rfl, (blk_cell BK109.out 5).trans rfl⟩ (fun hHeld => ?_)
  clear hK K
  refine norm_ (a' := ?_) ?_ ?_
  rotate_left
  · show Act.put _ (some 6) _ = _
    simp only [Act.put, List.setIfInBounds_toArray, List.set_cons_zero, List.set_cons_succ, i64_w, i32_w]
    rfl
  refine pure_ (i := 8) (N := some 11) (v := ?_) (a' := ?_) #[true, true, true, true, true, true, true, false, true, false, false, false, false, false] rfl rfl (any_of HT_.out (by kernel_rfl)) (fun _ _ _ h => h) (Or.inl ⟨by rfl, ?_⟩) ?_ ?_
  rotate_left
  · intro w'
    go_simp
    with_reducible rfl
  rotate_left
  · simp only [Act.put, List.setIfInBounds_toArray, List.set_cons_zero, List.set_cons_succ, i64_w, i32_w]
    rfl
  refine pure_ (i := 9) (N := some 12) (v := ?_) (a' := ?_) #[true, true, true, true, true, true, true, false, true, true, false, false, false, false] rfl rfl (any_of HT_.out (by kernel_rfl)) (fun _ _ _ h => h) (Or.inl ⟨by rfl, ?_⟩) ?_ ?_
  rotate_left
  · intro w'
    go_simp
    with_reducible rfl
  rotate_left
  · simp only [Act.put, List.setIfInBounds_toArray, List.set_cons_zero, List.set_cons_succ, i64_w, i32_w]
    rfl
  refine one_ (i := 7) (N := some 10) #[true, true, true, true, true, true, true, true, true, true, false, false, false, false] rfl rfl (one_of HT_.out (by kernel_rfl)) (by decide) (fun K hK => ?_)
  refine goes_ Tryd.func28 (by kernel_rfl) rfl #[.slice A0_4 l0_4.length c0_4] (by rfl) rfl rfl (by (try simp only [List.map_toArray, List.map_cons, List.map_nil]); first | done | rfl | (simp only [List.length_drop, List.length_take]; rfl)) ?_
  with_reducible refine (value_Twin.calls k _ _ l0_4 t114 _ ?side1 ?side2 A3.out).mono ?_
  (case side1 => repeat (first | exact (Kd.C_below HR0_4.out HB.out) | (with_reducible refine Kd.C_alloc ?_ _) | (with_reducible refine Kd.C_drewN ?_ _) | (with_reducible refine Kd.C_drew ?_)))
  (case side2 => exact HC0_4.out)
  rintro e w8 ⟨v115, rfl, ho0, hb⟩
  refine ⟨_, rfl, ?_⟩
  have n0_ := Aside0.mk (Kd.S_elder' (by (with_reducible repeat (first | apply Kd.S_alloc | apply Kd.S_drewN | apply Kd.S_drew)); exact HO113.out) (Kd.S_base ho0) hb)
  have n1_ := Aside0.mk (Kd.S_lower (Kd.S_new' ho0 (Kd.S_lt (by (with_reducible repeat (first | apply Kd.S_alloc | apply Kd.S_drewN | apply Kd.S_drew)); exact HO113.out))) (below_size (by repeat (first | (with_reducible first | exact HB.out | apply below_alloc | apply pw_below_drewN | apply below_drew1 | refine below_set ?_ GE109.out | refine below_set ?_ GE110.out) | exact HB.out))))
  have n2_ := Aside0.mk (blk_below (g := gb109) (o := .cells #[.int .i64 a0_0, .int .i64 a0_1, .string a0_2, .slice A0_3 l0_3.length c0_3, .slice A0_4 l0_4.length c0_4, .int .i64 a0_5] 27 (0, 0)) (by (with_reducible repeat (first | refine blk_drewN ?_ _ | refine blk_drew ?_ | refine blk_alloc ?_ _)); exact BK109.out) hb)
  have n3_ := Aside0.mk (blk_below (g := gb110) (o := .cells #[.int .i64 0, .int .i64 0, .string (⟨#[]⟩ : ByteArray), .slice none 0 0, .slice none 0 0, .int .i64 0] 27 (0, 0)) (by (with_reducible repeat (first | refine blk_drewN ?_ _ | refine blk_drew ?_ | refine blk_alloc ?_ _)); exact BK110.out) hb)
  have n4_ := Aside0.mk (below_step (by repeat (first | (with_reducible first | exact HB.out | apply below_alloc | apply pw_below_drewN | apply below_drew1 | refine below_set ?_ GE109.out | refine below_set ?_ GE110.out) | exact HB.out)) hb)
  clear HO113
  clear BK109
  clear BK110
  clear HB
  have HO113 := n0_
  have HO116 := n1_
  have BK109 := n2_
  have BK110 := n3_
  have HB := n4_
  clear n0_ n1_ n2_ n3_ n4_
  (try clear hb)
  (try clear hb2)
  (try clear hk)
  (try clear hi)
  (try clear ho0)
  obtain ⟨Ao9, co9, eo9⟩ := Kd.S_slice HO113.out
  (first | subst eo9 | (injection eo9 with f1_ f2_ f3_; have f4_ := f1_.symm; have f5_ := f3_.symm; clear f1_ f2_ f3_; subst f4_; subst f5_))
  obtain ⟨Ao11, co11, eo11⟩ := Kd.S_slice HO116.out
  (first | subst eo11 | (injection eo11 with f1_ f2_ f3_; have f4_ := f1_.symm; have f5_ := f3_.symm; clear f1_ f2_ f3_; subst f4_; subst f5_))
  refine hK.out _ _ ⟨(blk_cell BK109.out 0).trans rfl, (blk_cell BK109.out 1).trans rfl, (blk_cell BK109.out 2).trans rfl, (blk_cell BK109.out 3).trans rfl, (blk_cell BK109.out 4).trans rfl, (blk_cell BK109.out 5).trans rfl⟩ (fun hHeld => ?_)
  clear hK K
  refine norm_ (a' := ?_) ?_ ?_
  rotate_left
  · show Act.put _ (some 10) _ = _
    simp only [Act.put, List.setIfInBounds_toArray, List.set_cons_zero, List.set_cons_succ, i64_w, i32_w]
    rfl
  refine last_ (i := 10) (N := none) #[true, true, true, true, true, true, true, true, true, true, true, false, false, false] rfl rfl (one_of HT_.out (by kernel_rfl)) (by decide) (fun K hK => ?_)
  have hs10 : w8.cell? ⟨gb109, 3, none⟩ = some (.slice A0_3 l0_3.length c0_3) := (blk_cell BK109.out 3).trans rfl
  have hfs10 := blk_frozen BK109.out 3
  have hns10_1 := NB110_109.out
  have hms10_1 := NB109_110.out
  refine skip_ (w1 := ?_) (by rfl) rfl ?_ ?_
  rotate_left
  · go_simp
    rfl
  refine hK.out _ _ ?_
  clear hK K
  refine pure_ (i := 11) (N := some 13) (v := ?_) (a' := ?_) #[true, true, true, true, true, true, true, true, true, true, true, true, false, false] rfl rfl (any_of HT_.out (by kernel_rfl)) (fun _ _ _ h => h) (Or.inl ⟨by rfl, ?_⟩) ?_ ?_
  rotate_left
  · intro w'
    go_simp
    with_reducible rfl
  rotate_left
  · simp only [Act.put, List.setIfInBounds_toArray, List.set_cons_zero, List.set_cons_succ, i64_w, i32_w]
    rfl
  refine pure_ (i := 12) (N := some 14) (v := ?_) (a' := ?_) #[true, true, true, true, true, true, true, true, true, true, true, true, true, false] rfl rfl (any_of HT_.out (by kernel_rfl)) (fun _ _ _ h => h) (Or.inl ⟨by rfl, ?_⟩) ?_ ?_
  rotate_left
  · intro w'
    go_simp
    with_reducible rfl
  rotate_left
  · simp only [Act.put, List.setIfInBounds_toArray, List.set_cons_zero, List.set_cons_succ, i64_w, i32_w]
    rfl
  refine last_ (i := 13) (N := none) #[true, true, true, true, true, true, true, true, true, true, true, true, true, true] rfl rfl (one_of HT_.out (by kernel_rfl)) (by decide) (fun K hK => ?_)
  have hs12 : w8.cell? ⟨gb109, 4, none⟩ = some (.slice A0_4 l0_4.length c0_4) := (blk_cell BK109.out 4).trans rfl
  have hfs12 := blk_frozen BK109.out 4
  have hns12_1 := NB110_109.out
  have hms12_1 := NB109_110.out
  refine skip_ (w1 := ?_) (by rfl) rfl ?_ ?_
  rotate_left
  · go_simp
    rfl
  refine hK.out _ _ ?_
  clear hK K
  refine done_ (done_of HT_.out (by kernel_rfl)) ?_
  have hnb13 := NB109_110.out
  have hnc13 := NB110_109.out
  have hcz14_0 : w8.cell? ⟨gb109, 0, none⟩ = some (.int .i64 a0_0) := (blk_cell BK109.out 0).trans rfl
  have hcz14_1 : w8.cell? ⟨gb109, 1, none⟩ = some (.int .i64 a0_1) := (blk_cell BK109.out 1).trans rfl
  have hcz14_2 : w8.cell? ⟨gb109, 2, none⟩ = some (.string a0_2) := (blk_cell BK109.out 2).trans rfl
  have hcz14_3 : w8.cell? ⟨gb109, 3, none⟩ = some (.slice A0_3 l0_3.length c0_3) := (blk_cell BK109.out 3).trans rfl
  have hcz14_4 : w8.cell? ⟨gb109, 4, none⟩ = some (.slice A0_4 l0_4.length c0_4) := (blk_cell BK109.out 4).trans rfl
  have hcz14_5 : w8.cell? ⟨gb109, 5, none⟩ = some (.int .i64 a0_5) := (blk_cell BK109.out 5).trans rfl
  have hfz14_0 := blk_frozen BK109.out 0
  have hfz14_1 := blk_frozen BK109.out 1
  have hfz14_2 := blk_frozen BK109.out 2
  have hfz14_3 := blk_frozen BK109.out 3
  have hfz14_4 := blk_frozen BK109.out 4
  have hfz14_5 := blk_frozen BK109.out 5
  have hcz15_0 : w8.cell? ⟨gb110, 0, none⟩ = some (.int .i64 0) := (blk_cell BK110.out 0).trans rfl
  have hcz15_1 : w8.cell? ⟨gb110, 1, none⟩ = some (.int .i64 0) := (blk_cell BK110.out 1).trans rfl
  have hcz15_2 : w8.cell? ⟨gb110, 2, none⟩ = some (.string (⟨#[]⟩ : ByteArray)) := (blk_cell BK110.out 2).trans rfl
  have hcz15_3 : w8.cell? ⟨gb110, 3, none⟩ = some (.slice none 0 0) := (blk_cell BK110.out 3).trans rfl
  have hcz15_4 : w8.cell? ⟨gb110, 4, none⟩ = some (.slice none 0 0) := (blk_cell BK110.out 4).trans rfl
  have hcz15_5 : w8.cell? ⟨gb110, 5, none⟩ = some (.int .i64 0) := (blk_cell BK110.out 5).trans rfl
  have hfz15_0 := blk_frozen BK110.out 0
  have hfz15_1 := blk_frozen BK110.out 1
  have hfz15_2 := blk_frozen BK110.out 2
  have hfz15_3 := blk_frozen BK110.out 3
  have hfz15_4 := blk_frozen BK110.out 4
  have hfz15_5 := blk_frozen BK110.out 5
  try go_wp2
  refine bodyPost_ret (results_cell_row rfl _ _ gb110 27 #[.int .i64 a0_0, .int .i64 a0_1, .string a0_2, .slice Ao9 t111.length co9, .slice Ao11 t114.length co11, .int .i64 a0_5] (0, 0) _ rfl (by (with_reducible repeat (first | refine blk_drewN ?_ _ | refine blk_drew ?_ | refine blk_alloc ?_ _)); refine blk_put (cs := #[.int .i64 a0_0, .int .i64 a0_1, .string a0_2, .slice Ao9 t111.length co9, .slice Ao11 t114.length co11, .int .i64 0]) ?_ 5 _ rfl; (with_reducible repeat (first | refine blk_drewN ?_ _ | refine blk_drew ?_ | refine blk_alloc ?_ _)); refine blk_put (cs := #[.int .i64 a0_0, .int .i64 a0_1, .string a0_2, .slice Ao9 t111.length co9, .slice none 0 0, .int .i64 0]) ?_ 4 _ rfl; (with_reducible repeat (first | refine blk_drewN ?_ _ | refine blk_drew ?_ | refine blk_alloc ?_ _)); refine blk_put (cs := #[.int .i64 a0_0, .int .i64 a0_1, .string a0_2, .slice none 0 0, .slice none 0 0, .int .i64 0]) ?_ 3 _ rfl; (with_reducible repeat (first | refine blk_drewN ?_ _ | refine blk_drew ?_ | refine blk_alloc ?_ _)); refine blk_put (cs := #[.int .i64 a0_0, .int .i64 a0_1, .string (⟨#[]⟩ : ByteArray), .slice none 0 0, .slice none 0 0, .int .i64 0]) ?_ 2 _ rfl; (with_reducible repeat (first | refine blk_drewN ?_ _ | refine blk_drew ?_ | refine blk_alloc ?_ _)); refine blk_put (cs := #[.int .i64 a0_0, .int .i64 0, .string (⟨#[]⟩ : ByteArray), .slice none 0 0, .slice none 0 0, .int .i64 0]) ?_ 1 _ rfl; (with_reducible repeat (first | refine blk_drewN ?_ _ | refine blk_drew ?_ | refine blk_alloc ?_ _)); refine blk_put (cs := #[.int .i64 0, .int .i64 0, .string (⟨#[]⟩ : ByteArray), .slice none 0 0, .slice none 0 0, .int .i64 0]) ?_ 0 _ rfl; (with_reducible repeat (first | refine blk_drewN ?_ _ | refine blk_drew ?_ | refine blk_alloc ?_ _)); refine blk_far ?_ NB110_109.out _; (with_reducible repeat (first | refine blk_drewN ?_ _ | refine blk_drew ?_ | refine blk_alloc ?_ _)); refine blk_far ?_ NB110_109.out _; (with_reducible repeat (first | refine blk_drewN ?_ _ | refine blk_drew ?_ | refine blk_alloc ?_ _)); exact BK110.out) Tryd.underlying27 rfl (by kernel_rfl)) rfl ?_
  exact ⟨_, _, by first | rfl | (simp [errW_none, errW_some] <;> rfl) | (simp [*, errW_none, errW_some] <;> rfl), by (with_reducible repeat (first | apply Kd.S_alloc | apply Kd.S_drewN | apply Kd.S_drew)); exact Kd.S_mono (Kd.S_far (p := ⟨gb110, 5, none⟩) (Kd.S_far (p := ⟨gb110, 4, none⟩) (Kd.S_far (p := ⟨gb110, 3, none⟩) (Kd.S_far (p := ⟨gb110, 2, none⟩) (Kd.S_far (p := ⟨gb110, 1, none⟩) (Kd.S_far (p := ⟨gb110, 0, none⟩) (Kd.S_far (p := ⟨gb109, 4, none⟩) (Kd.S_far (p := ⟨gb109, 3, none⟩) (Kd.S_types (Kd.S_types HO113.out BK109.out (by decide)) BK110.out (by decide)) (fun _ hk => hk.1.2) (.slice Ao9 t111.length co9)) (fun _ hk => hk.1.2) (.slice Ao11 t114.length co11)) (fun _ hk => hk.2) (.int .i64 a0_0)) (fun _ hk => hk.2) (.int .i64 a0_1)) (fun _ hk => hk.2) (.string a0_2)) (fun _ hk => hk.2) (.slice Ao9 t111.length co9)) (fun _ hk => hk.2) (.slice Ao11 t114.length co11)) (fun _ hk => hk.2) (.int .i64 a0_5)) (fun _ hk => hk.1.1.2), by (with_reducible repeat (first | apply Kd.S_alloc | apply Kd.S_drewN | apply Kd.S_drew)); exact Kd.S_mono (Kd.S_far (p := ⟨gb110, 5, none⟩) (Kd.S_far (p := ⟨gb110, 4, none⟩) (Kd.S_far (p := ⟨gb110, 3, none⟩) (Kd.S_far (p := ⟨gb110, 2, none⟩) (Kd.S_far (p := ⟨gb110, 1, none⟩) (Kd.S_far (p := ⟨gb110, 0, none⟩) (Kd.S_far (p := ⟨gb109, 4, none⟩) (Kd.S_far (p := ⟨gb109, 3, none⟩) (Kd.S_types (Kd.S_types HO116.out BK109.out (by decide)) BK110.out (by decide)) (fun _ hk => hk.1.2) (.slice Ao9 t111.length co9)) (fun _ hk => hk.1.2) (.slice Ao11 t114.length co11)) (fun _ hk => hk.2) (.int .i64 a0_0)) (fun _ hk => hk.2) (.int .i64 a0_1)) (fun _ hk => hk.2) (.string a0_2)) (fun _ hk => hk.2) (.slice Ao9 t111.length co9)) (fun _ hk => hk.2) (.slice Ao11 t114.length co11)) (fun _ hk => hk.2) (.int .i64 a0_5)) (fun _ hk => hk.1.1.2), by repeat (first | (with_reducible first | exact HB.out | apply below_alloc | apply pw_below_drewN | apply below_drew1 | refine below_set ?_ GE109.out | refine below_set ?_ GE110.out) | exact HB.out)⟩
def dead_clo.f (a0_0 : Int) (a0_1 : Int) (a0_2 : ByteArray) (l0_3 : List S37) (l0_4 : List S37) (a0_5 : Int) (a1 : S27 → Bool) : Option Bool := some (a1 ⟨a0_0, ⟨a0_1, a0_2, l0_3, l0_4⟩, a0_5⟩)
/-- A closure that answers by a predicate, in every world that stands over W. -/
def CloOk (FF : FuncId) (CC : Array Value) (p : S27 → Bool) (W : World) : Prop := ∀ (a0_0 : Int) (a0_1 : Int) (a0_2 : ByteArray) (A0_3 : Option Addr) (c0_3 : Nat) (l0_3 : List (S37)) (A0_4 : Option Addr) (c0_4 : Nat) (l0_4 : List (S37)) (a0_5 : Int) (r : Bool) (w : World) (_hB : Below W.heap.size W w) (_hr0_3 : Kd.C k37 w A0_3 l0_3.length l0_3) (_hc0_3 : l0_3.length ≤ c0_3) (_hr0_4 : Kd.C k37 w A0_4 l0_4.length l0_4) (_hc0_4 : l0_4.length ≤ c0_4) (_h : dead_clo.f a0_0 a0_1 a0_2 l0_3 l0_4 a0_5 p = some r),
    Calls Tryd.prog FF (#[.agg #[.int .i64 a0_0, .int .i64 a0_1, .string a0_2, .slice A0_3 l0_3.length c0_3, .slice A0_4 l0_4.length c0_4, .int .i64 a0_5]] ++ CC) w fun e w' => e = .returned (.bool r) ∧ Below w.heap.size w w'
def dead_but.l0 : Nat → (S27 → Bool) → List (S27) → List (S27) → Int → Int → Option ((List (S27)))
  | 0, _, _, _, _, _ => none
  | k + 1, x1, x5, x8, x9, x10 => if x10 < x9 then (if 0 ≤ x10 then (if x10 < (x8.length : Int) then ((dead_clo.f ((rd_T27 x8 x10).f0) ((rd_T27 x8 x10).f1.f0) ((rd_T27 x8 x10).f1.f1) ((rd_T27 x8 x10).f1.f2) ((rd_T27 x8 x10).f1.f3) ((rd_T27 x8 x10).f2) x1).bind fun t119 => (if t119 = true then (dead_but.l0 k x1 x5 x8 x9 (wrap64 (x10 + 1))) else ((dead_twin.f k ((rd_T27 x8 x10).f0) ((rd_T27 x8 x10).f1.f0) ((rd_T27 x8 x10).f1.f1) ((rd_T27 x8 x10).f1.f2) ((rd_T27 x8 x10).f1.f3) ((rd_T27 x8 x10).f2)).bind fun bt120 => (if x5.length < 1599289640401 then (dead_but.l0 k x1 (x5 ++ [(⟨bt120.1, (⟨bt120.2.1, bt120.2.2.1, bt120.2.2.2.1, bt120.2.2.2.2.1⟩ : S25), bt120.2.2.2.2.2⟩ : S27)]) x8 x9 (wrap64 (x10 + 1))) else (none))))) else (none)) else (none)) else (some x5)
def dead_but.g (k : Nat) (l0 : List (S27)) (a1 : S27 → Bool) : Option ((List (S27))) := dead_but.l0 k a1 ([] : List (S27)) l0 (l0.length : Int) 0
set_option maxHeartbeats 2000000 in
set_option maxRecDepth 100000 in
theorem dead_but.gcalls (FF : FuncId) (fnF : Func) (CC : Array Value) (hFf : Tryd.prog.funcs[FF]? = some fnF) (hFn : (fnF.name == "runtime.NumGoroutine") = false) (hFb : fnF.body.isSome = true) (k : Nat) (A0 : Option Addr) (c0 : Nat) (l0 : List (S27)) (a1 : S27 → Bool) (r : List (S27)) (w : World) (hcl : CloOk FF CC a1 w) (hr0 : Kd.C k27 w A0 l0.length l0) (hc0 : l0.length ≤ c0) (h : dead_but.g k l0 a1 = some r) :
    Calls Tryd.prog 21 #[.slice A0 l0.length c0, .func (.func FF) #[] CC] w fun e w' => ∃ v0_ : Value, e = .returned (v0_) ∧ Kd.R k27 27 w' w.heap.size (fun _ => True) v0_ r ∧ Below w.heap.size w w' := by
  have hu27 := Tryd.underlying27
  have HCl := Aside0.mk hcl
  have HFf := Aside0.mk hFf
  clear hcl hFf
  have HR0 := Aside0.mk hr0
  have HC0 := Aside0.mk hc0
  clear hr0 hc0
  have HB := Aside0.mk (Below.refl w.heap.size w)
  have H : (dead_but.l0 k a1 ([] : List (S27)) l0 (l0.length : Int) 0) = some r := h
  clear h
  have H' := Aside0.mk H
  clear H
  go_enter Tryd.func21, Tryd.ntmps21
  go_wp2
  go_loopg [5, 10] k (fun kq v5 v10 w' => ∃ (x5_1 : List (S27)) (x10_1 : Int), v10 = .int .i64 x10_1 ∧ Aside0 (dead_but.l0 kq a1 x5_1 l0 (l0.length : Int) x10_1 = some r) ∧ Aside0 (kq ≤ k) ∧ Aside0 (Kd.R k27 27 w' w.heap.size (fun _ => True) v5 x5_1) ∧ Aside0 (Below w.heap.size w w'))
  case atStart => exact ⟨(([] : List (S27))), (0), (by first | rfl | (simp; done) | (simp [*]; done)), H', ⟨Nat.le_refl _⟩, ⟨by first | exact Kd.R_nil _ _ _ _ _ | exact Kd.N_nil _ _ _ _ _ | exact Kd.V_nil _ _ _ _ _ | exact Kd.Q_nil _ _ _ _ _ | exact Kd.S_nil _ _ _ _ _⟩, ⟨by repeat (first | (with_reducible first | exact HB.out | apply below_alloc | apply pw_below_drewN | apply below_drew1) | exact HB.out)⟩⟩
  case round =>
    clear H'
    try clear c2
    try clear p2
    obtain ⟨x5_1, x10_1, rfl, HA, HK1, HO_5, HB⟩ := hrel
    cases gk with
    | zero => exact absurd HA.out (by simp [dead_but.l0])
    | succ k1 =>
      have H := HA.out
      clear HA
      simp only [dead_but.l0] at H
      by_cases c3 : x10_1 < (l0.length : Int)
      · rw [if_pos c3] at H
        have c3b0 : decide (x10_1 < (l0.length : Int)) = true := decide_eq_true c3
        clear c3
        by_cases c4 : 0 ≤ x10_1
        · rw [if_pos c4] at H
          have c4b0 : decide (0 ≤ x10_1) = true := decide_eq_true c4
          clear c4
          by_cases c5 : x10_1 < (l0.length : Int)
          · rw [if_pos c5] at H
            have c5b0 : decide (x10_1 < (l0.length : Int)) = true := decide_eq_true c5
            clear c5
            replace H := Option.bind_eq_some_iff.mp H
            obtain ⟨t119, A60, H⟩ := H
            replace H : (if t119 = true then (dead_but.l0 k1 a1 x5_1 l0 (l0.length : Int) (wrap64 (x10_1 + 1))) else ((dead_twin.f k1 ((rd_T27 l0 x10_1).f0) ((rd_T27 l0 x10_1).f1.f0) ((rd_T27 l0 x10_1).f1.f1) ((rd_T27 l0 x10_1).f1.f2) ((rd_T27 l0 x10_1).f1.f3) ((rd_T27 l0 x10_1).f2)).bind fun bt120 => (if x5_1.length < 1599289640401 then (dead_but.l0 k1 a1 (x5_1 ++ [(⟨bt120.1, (⟨bt120.2.1, bt120.2.2.1, bt120.2.2.2.1, bt120.2.2.2.2.1⟩ : S25), bt120.2.2.2.2.2⟩ : S27)]) l0 (l0.length : Int) (wrap64 (x10_1 + 1))) else (none)))) = some r := H
            have A6 := Aside0.mk A60
            clear A60
            by_cases c7 : t119 = true
            · subst c7
              have H1 : (dead_but.l0 k1 a1 x5_1 l0 (l0.length : Int) (wrap64 (x10_1 + 1))) = some r := by rw [if_pos rfl] at H; exact H
              clear H
              have H := H1
              clear H1
              have H' := Aside0.mk H
              clear H
              have p117 : 0 ≤ (x10_1 : Int) := of_decide_eq_true (by first | (with_reducible assumption) | assumption)
              have q117 : x10_1 < (l0.length : Int) := of_decide_eq_true (by first | (with_reducible assumption) | assumption)
              obtain ⟨ad117, A117_3, c117_3, A117_4, c117_4, e117, hx117_0, hx117_1, hx117_2, hx117_3, hx117_4, hx117_5, hl117_3, hi117_3, hl117_4, hi117_4⟩ := at_T27 HR0.out x10_1 p117 q117
              cases e117
              replace hx117_0 := (HB.out.cell (World.block_lt_of_cell? w _ hx117_0)).trans hx117_0
              replace hx117_1 := (HB.out.cell (World.block_lt_of_cell? w _ hx117_1)).trans hx117_1
              replace hx117_2 := (HB.out.cell (World.block_lt_of_cell? w _ hx117_2)).trans hx117_2
              replace hx117_3 := (HB.out.cell (World.block_lt_of_cell? w _ hx117_3)).trans hx117_3
              replace hx117_4 := (HB.out.cell (World.block_lt_of_cell? w _ hx117_4)).trans hx117_4
              replace hx117_5 := (HB.out.cell (World.block_lt_of_cell? w _ hx117_5)).trans hx117_5
              have HR117_3 := Aside0.mk hi117_3
              have HC117_3 := Aside0.mk hl117_3
              clear hi117_3 hl117_3
              have HR117_4 := Aside0.mk hi117_4
              have HC117_4 := Aside0.mk hl117_4
              clear hi117_4 hl117_4
              replace p117 := eq_true p117
              replace q117 := eq_true q117
              go_wp2_with (first | ((with_reducible refine gate_dst (N := 7) rfl ?_); refine box_event ?hg (N := 7) ?hd (cs := #[.int .i64 0, .int .i64 0, .string (⟨#[]⟩ : ByteArray), .slice none 0 0, .slice none 0 0, .int .i64 0]) (t := 27) ?hr ?_; (case hd => rfl); (case hg => rfl); (case hr => first | (go_simp; done) | (go_simp; rfl)); intro gb118 hg w8 hbox hb; have n0_ := Aside0.mk (Kd.R_below (Kd.R_elderB (by (with_reducible repeat (first | apply Kd.R_alloc | apply Kd.R_drewN | apply Kd.R_drew)); exact HO_5.out) gb118 (Nat.le_of_eq hg.symm)) hb); have n1_ := Aside0.mk (below_step (by repeat (first | (with_reducible first | exact HB.out | apply below_alloc | apply pw_below_drewN | apply below_drew1) | exact HB.out)) hb); have n2_ := Aside0.mk (hbox); have n3_ := Aside0.mk ((by rw [hg]; exact (below_size (by repeat (first | (with_reducible first | exact HB.out | apply below_alloc | apply pw_below_drewN | apply below_drew1) | exact HB.out))) : w.heap.size ≤ gb118)); have n4_ := Aside0.mk ((by rw [hg]; exact (below_size (by repeat (first | (with_reducible first | exact HB.out | apply below_alloc | apply pw_below_drewN | apply below_drew1) | exact HB.out))) : w.heap.size ≤ gb118)); clear HO_5; clear HB; have HO_5 := n0_; have HB := n1_; have BK118 := n2_; have GW118 := n3_; have GE118 := n4_; clear n0_ n1_ n2_ n3_ n4_; clear hb hbox hg; have hcz9_0 : w8.cell? ⟨gb118, 0, none⟩ = some (.int .i64 0) := (blk_cell BK118.out 0).trans rfl; have hcz9_1 : w8.cell? ⟨gb118, 1, none⟩ = some (.int .i64 0) := (blk_cell BK118.out 1).trans rfl; have hcz9_2 : w8.cell? ⟨gb118, 2, none⟩ = some (.string (⟨#[]⟩ : ByteArray)) := (blk_cell BK118.out 2).trans rfl; have hcz9_3 : w8.cell? ⟨gb118, 3, none⟩ = some (.slice none 0 0) := (blk_cell BK118.out 3).trans rfl; have hcz9_4 : w8.cell? ⟨gb118, 4, none⟩ = some (.slice none 0 0) := (blk_cell BK118.out 4).trans rfl; have hcz9_5 : w8.cell? ⟨gb118, 5, none⟩ = some (.int .i64 0) := (blk_cell BK118.out 5).trans rfl; have hfz9_0 := blk_frozen BK118.out 0; have hfz9_1 := blk_frozen BK118.out 1; have hfz9_2 := blk_frozen BK118.out 2; have hfz9_3 := blk_frozen BK118.out 3; have hfz9_4 := blk_frozen BK118.out 4; have hfz9_5 := blk_frozen BK118.out 5) | ((with_reducible refine gate_calleeF (op := .tmp 14) rfl ?_); refine goesLG_ (some 16) rfl rfl (f := FF) (.tmp 14) CC HFf.out hFn hFb #[.agg #[.int .i64 ((rd_T27 l0 x10_1).f0), .int .i64 ((rd_T27 l0 x10_1).f1.f0), .string ((rd_T27 l0 x10_1).f1.f1), .slice A117_3 ((rd_T27 l0 x10_1).f1.f2).length c117_3, .slice A117_4 ((rd_T27 l0 x10_1).f1.f3).length c117_4, .int .i64 ((rd_T27 l0 x10_1).f2)]] rfl rfl (by (try simp only [List.map_toArray, List.map_cons, List.map_nil]); first | done | rfl) ?_; (refine (HCl.out ((rd_T27 l0 x10_1).f0) ((rd_T27 l0 x10_1).f1.f0) ((rd_T27 l0 x10_1).f1.f1) _ _ ((rd_T27 l0 x10_1).f1.f2) _ _ ((rd_T27 l0 x10_1).f1.f3) ((rd_T27 l0 x10_1).f2) true _ ?side0 ?side1 ?side2 ?side3 ?side4 A6.out).mono ?_); (case side0 => exact (by repeat (first | (with_reducible first | exact HB.out | apply below_alloc | apply pw_below_drewN | apply below_drew1 | refine below_set ?_ GE118.out) | exact HB.out))); (case side1 => exact Kd.C_below HR117_3.out (by repeat (first | (with_reducible first | exact HB.out | apply below_alloc | apply pw_below_drewN | apply below_drew1 | refine below_set ?_ GE118.out) | exact HB.out))); (case side2 => exact HC117_3.out); (case side3 => exact Kd.C_below HR117_4.out (by repeat (first | (with_reducible first | exact HB.out | apply below_alloc | apply pw_below_drewN | apply below_drew1 | refine below_set ?_ GE118.out) | exact HB.out))); (case side4 => exact HC117_4.out); rintro e w10 ⟨rfl, hb⟩; refine ⟨_, rfl, ?_⟩; have n0_ := Aside0.mk (Kd.R_below (by (with_reducible repeat (first | apply Kd.R_alloc | apply Kd.R_drewN | apply Kd.R_drew)); exact (Kd.R_mono (Kd.R_far (p := ⟨gb118, 5, none⟩) (Kd.R_far (p := ⟨gb118, 4, none⟩) (Kd.R_far (p := ⟨gb118, 3, none⟩) (Kd.R_far (p := ⟨gb118, 2, none⟩) (Kd.R_far (p := ⟨gb118, 1, none⟩) (Kd.R_far (p := ⟨gb118, 0, none⟩) (Kd.R_mono HO_5.out (fun k_ hk => (⟨hk, hk.2⟩ : _ ∧ k_ ≠ gb118))) (fun _ hk => hk.2) (.int .i64 ((rd_T27 l0 x10_1).f0))) (fun _ hk => hk.2) (.int .i64 ((rd_T27 l0 x10_1).f1.f0))) (fun _ hk => hk.2) (.string ((rd_T27 l0 x10_1).f1.f1))) (fun _ hk => hk.2) (.slice A117_3 ((rd_T27 l0 x10_1).f1.f2).length c117_3)) (fun _ hk => hk.2) (.slice A117_4 ((rd_T27 l0 x10_1).f1.f3).length c117_4)) (fun _ hk => hk.2) (.int .i64 ((rd_T27 l0 x10_1).f2))) (fun _ h_ => h_.1))) hb); have n1_ := Aside0.mk (blk_below (g := gb118) (o := .cells #[.int .i64 ((rd_T27 l0 x10_1).f0), .int .i64 ((rd_T27 l0 x10_1).f1.f0), .string ((rd_T27 l0 x10_1).f1.f1), .slice A117_3 ((rd_T27 l0 x10_1).f1.f2).length c117_3, .slice A117_4 ((rd_T27 l0 x10_1).f1.f3).length c117_4, .int .i64 ((rd_T27 l0 x10_1).f2)] 27 (0, 0)) (by (with_reducible repeat (first | refine blk_drewN ?_ _ | refine blk_drew ?_ | refine blk_alloc ?_ _)); refine blk_put (cs := #[.int .i64 ((rd_T27 l0 x10_1).f0), .int .i64 ((rd_T27 l0 x10_1).f1.f0), .string ((rd_T27 l0 x10_1).f1.f1), .slice A117_3 ((rd_T27 l0 x10_1).f1.f2).length c117_3, .slice A117_4 ((rd_T27 l0 x10_1).f1.f3).length c117_4, .int .i64 0]) ?_ 5 _ rfl; (with_reducible repeat (first | refine blk_drewN ?_ _ | refine blk_drew ?_ | refine blk_alloc ?_ _)); refine blk_put (cs := #[.int .i64 ((rd_T27 l0 x10_1).f0), .int .i64 ((rd_T27 l0 x10_1).f1.f0), .string ((rd_T27 l0 x10_1).f1.f1), .slice A117_3 ((rd_T27 l0 x10_1).f1.f2).length c117_3, .slice none 0 0, .int .i64 0]) ?_ 4 _ rfl; (with_reducible repeat (first | refine blk_drewN ?_ _ | refine blk_drew ?_ | refine blk_alloc ?_ _)); refine blk_put (cs := #[.int .i64 ((rd_T27 l0 x10_1).f0), .int .i64 ((rd_T27 l0 x10_1).f1.f0), .string ((rd_T27 l0 x10_1).f1.f1), .slice none 0 0, .slice none 0 0, .int .i64 0]) ?_ 3 _ rfl; (with_reducible repeat (first | refine blk_drewN ?_ _ | refine blk_drew ?_ | refine blk_alloc ?_ _)); refine blk_put (cs := #[.int .i64 ((rd_T27 l0 x10_1).f0), .int .i64 ((rd_T27 l0 x10_1).f1.f0), .string (⟨#[]⟩ : ByteArray), .slice none 0 0, .slice none 0 0, .int .i64 0]) ?_ 2 _ rfl; (with_reducible repeat (first | refine blk_drewN ?_ _ | refine blk_drew ?_ | refine blk_alloc ?_ _)); refine blk_put (cs := #[.int .i64 ((rd_T27 l0 x10_1).f0), .int .i64 0, .string (⟨#[]⟩ : ByteArray), .slice none 0 0, .slice none 0 0, .int .i64 0]) ?_ 1 _ rfl; (with_reducible repeat (first | refine blk_drewN ?_ _ | refine blk_drew ?_ | refine blk_alloc ?_ _)); refine blk_put (cs := #[.int .i64 0, .int .i64 0, .string (⟨#[]⟩ : ByteArray), .slice none 0 0, .slice none 0 0, .int .i64 0]) ?_ 0 _ rfl; (with_reducible repeat (first | refine blk_drewN ?_ _ | refine blk_drew ?_ | refine blk_alloc ?_ _)); exact BK118.out) hb); have n2_ := Aside0.mk (below_step (by repeat (first | (with_reducible first | exact HB.out | apply below_alloc | apply pw_below_drewN | apply below_drew1 | refine below_set ?_ GE118.out) | exact HB.out)) hb); clear HO_5; clear BK118; clear HB; have HO_5 := n0_; have BK118 := n1_; have HB := n2_; clear n0_ n1_ n2_; (try clear hb); (try clear hb2); (try clear hk); (try clear hi)))
              go_roundg k1
              case measure => have := HK1.out; omega
              case rel => exact ⟨(x5_1), (wrap64 (x10_1 + 1)), (by first | rfl | (simp; done) | (simp [*]; done)), H', ⟨by have := HK1.out; omega⟩, ⟨by (with_reducible repeat (first | apply Kd.R_alloc | apply Kd.R_drewN | apply Kd.R_drew)); exact Kd.R_mono HO_5.out (fun _ hk => trivial)⟩, ⟨by repeat (first | (with_reducible first | exact HB.out | apply below_alloc | apply pw_below_drewN | apply below_drew1 | refine below_set ?_ GE118.out) | exact HB.out)⟩⟩
            · replace c7 := Bool.eq_false_iff.mpr c7
              subst c7
              have H1 : ((dead_twin.f k1 ((rd_T27 l0 x10_1).f0) ((rd_T27 l0 x10_1).f1.f0) ((rd_T27 l0 x10_1).f1.f1) ((rd_T27 l0 x10_1).f1.f2) ((rd_T27 l0 x10_1).f1.f3) ((rd_T27 l0 x10_1).f2)).bind fun bt120 => (if x5_1.length < 1599289640401 then (dead_but.l0 k1 a1 (x5_1 ++ [(⟨bt120.1, (⟨bt120.2.1, bt120.2.2.1, bt120.2.2.2.1, bt120.2.2.2.2.1⟩ : S25), bt120.2.2.2.2.2⟩ : S27)]) l0 (l0.length : Int) (wrap64 (x10_1 + 1))) else (none))) = some r := by rw [if_neg (show ¬ (false = true) by decide)] at H; exact H
              clear H
              have H := H1
              clear H1
              replace H := Option.bind_eq_some_iff.mp H
              obtain ⟨⟨t120, t121, t122, t123, t126, t129⟩, A110, H⟩ := H
              replace H : (if x5_1.length < 1599289640401 then (dead_but.l0 k1 a1 (x5_1 ++ [(⟨t120, (⟨t121, t122, t123, t126⟩ : S25), t129⟩ : S27)]) l0 (l0.length : Int) (wrap64 (x10_1 + 1))) else (none)) = some r := H
              have A11 := Aside0.mk A110
              clear A110
              by_cases c12 : x5_1.length < 1599289640401
              · rw [if_pos c12] at H
                have LMc12 := Aside0.mk c12
                clear c12
                obtain ⟨y130, hy130⟩ : ∃ y_ : List (S27), y_ = (x5_1 ++ [(⟨t120, (⟨t121, t122, t123, t126⟩ : S25), t129⟩ : S27)]) := ⟨_, rfl⟩
                replace H : (dead_but.l0 k1 a1 y130 l0 (l0.length : Int) (wrap64 (x10_1 + 1))) = some r := by first | (rw [hy130]; with_reducible exact H) | (have H2_ := (Option.bind_some _ _).symm.trans H; rw [hy130]; with_reducible exact H2_) | (have H2_ := (Option.bind_some _ _).symm.trans H; with_reducible exact H2_) | with_reducible exact H | (rw [hy130]; exact H) | exact H
                have Ny130 := Aside0.mk hy130
                clear hy130
                have H' := Aside0.mk H
                clear H
                have p117 : 0 ≤ (x10_1 : Int) := of_decide_eq_true (by first | (with_reducible assumption) | assumption)
                have q117 : x10_1 < (l0.length : Int) := of_decide_eq_true (by first | (with_reducible assumption) | assumption)
                obtain ⟨ad117, A117_3, c117_3, A117_4, c117_4, e117, hx117_0, hx117_1, hx117_2, hx117_3, hx117_4, hx117_5, hl117_3, hi117_3, hl117_4, hi117_4⟩ := at_T27 HR0.out x10_1 p117 q117
                cases e117
                replace hx117_0 := (HB.out.cell (World.block_lt_of_cell? w _ hx117_0)).trans hx117_0
                replace hx117_1 := (HB.out.cell (World.block_lt_of_cell? w _ hx117_1)).trans hx117_1
                replace hx117_2 := (HB.out.cell (World.block_lt_of_cell? w _ hx117_2)).trans hx117_2
                replace hx117_3 := (HB.out.cell (World.block_lt_of_cell? w _ hx117_3)).trans hx117_3
                replace hx117_4 := (HB.out.cell (World.block_lt_of_cell? w _ hx117_4)).trans hx117_4
                replace hx117_5 := (HB.out.cell (World.block_lt_of_cell? w _ hx117_5)).trans hx117_5
                have HR117_3 := Aside0.mk hi117_3
                have HC117_3 := Aside0.mk hl117_3
                clear hi117_3 hl117_3
                have HR117_4 := Aside0.mk hi117_4
                have HC117_4 := Aside0.mk hl117_4
                clear hi117_4 hl117_4
                replace p117 := eq_true p117
                replace q117 := eq_true q117
                go_wp2_with (first | ((with_reducible refine gate_dst (N := 7) rfl ?_); refine box_event ?hg (N := 7) ?hd (cs := #[.int .i64 0, .int .i64 0, .string (⟨#[]⟩ : ByteArray), .slice none 0 0, .slice none 0 0, .int .i64 0]) (t := 27) ?hr ?_; (case hd => rfl); (case hg => rfl); (case hr => first | (go_simp; done) | (go_simp; rfl)); intro gb118 hg w13 hbox hb; have n0_ := Aside0.mk (Kd.R_below (Kd.R_elderB (by (with_reducible repeat (first | apply Kd.R_alloc | apply Kd.R_drewN | apply Kd.R_drew)); exact HO_5.out) gb118 (Nat.le_of_eq hg.symm)) hb); have n1_ := Aside0.mk (below_step (by repeat (first | (with_reducible first | exact HB.out | apply below_alloc | apply pw_below_drewN | apply below_drew1) | exact HB.out)) hb); have n2_ := Aside0.mk (hbox); have n3_ := Aside0.mk ((by rw [hg]; exact (below_size (by repeat (first | (with_reducible first | exact HB.out | apply below_alloc | apply pw_below_drewN | apply below_drew1) | exact HB.out))) : w.heap.size ≤ gb118)); have n4_ := Aside0.mk ((by rw [hg]; exact (below_size (by repeat (first | (with_reducible first | exact HB.out | apply below_alloc | apply pw_below_drewN | apply below_drew1) | exact HB.out))) : w.heap.size ≤ gb118)); clear HO_5; clear HB; have HO_5 := n0_; have HB := n1_; have BK118 := n2_; have GW118 := n3_; have GE118 := n4_; clear n0_ n1_ n2_ n3_ n4_; clear hb hbox hg; have hcz14_0 : w13.cell? ⟨gb118, 0, none⟩ = some (.int .i64 0) := (blk_cell BK118.out 0).trans rfl; have hcz14_1 : w13.cell? ⟨gb118, 1, none⟩ = some (.int .i64 0) := (blk_cell BK118.out 1).trans rfl; have hcz14_2 : w13.cell? ⟨gb118, 2, none⟩ = some (.string (⟨#[]⟩ : ByteArray)) := (blk_cell BK118.out 2).trans rfl; have hcz14_3 : w13.cell? ⟨gb118, 3, none⟩ = some (.slice none 0 0) := (blk_cell BK118.out 3).trans rfl; have hcz14_4 : w13.cell? ⟨gb118, 4, none⟩ = some (.slice none 0 0) := (blk_cell BK118.out 4).trans rfl; have hcz14_5 : w13.cell? ⟨gb118, 5, none⟩ = some (.int .i64 0) := (blk_cell BK118.out 5).trans rfl; have hfz14_0 := blk_frozen BK118.out 0; have hfz14_1 := blk_frozen BK118.out 1; have hfz14_2 := blk_frozen BK118.out 2; have hfz14_3 := blk_frozen BK118.out 3; have hfz14_4 := blk_frozen BK118.out 4; have hfz14_5 := blk_frozen BK118.out 5) | ((with_reducible refine gate_calleeF (op := .tmp 14) rfl ?_); refine goesLG_ (some 16) rfl rfl (f := FF) (.tmp 14) CC HFf.out hFn hFb #[.agg #[.int .i64 ((rd_T27 l0 x10_1).f0), .int .i64 ((rd_T27 l0 x10_1).f1.f0), .string ((rd_T27 l0 x10_1).f1.f1), .slice A117_3 ((rd_T27 l0 x10_1).f1.f2).length c117_3, .slice A117_4 ((rd_T27 l0 x10_1).f1.f3).length c117_4, .int .i64 ((rd_T27 l0 x10_1).f2)]] rfl rfl (by (try simp only [List.map_toArray, List.map_cons, List.map_nil]); first | done | rfl) ?_; (refine (HCl.out ((rd_T27 l0 x10_1).f0) ((rd_T27 l0 x10_1).f1.f0) ((rd_T27 l0 x10_1).f1.f1) _ _ ((rd_T27 l0 x10_1).f1.f2) _ _ ((rd_T27 l0 x10_1).f1.f3) ((rd_T27 l0 x10_1).f2) false _ ?side0 ?side1 ?side2 ?side3 ?side4 A6.out).mono ?_); (case side0 => exact (by repeat (first | (with_reducible first | exact HB.out | apply below_alloc | apply pw_below_drewN | apply below_drew1 | refine below_set ?_ GE118.out) | exact HB.out))); (case side1 => exact Kd.C_below HR117_3.out (by repeat (first | (with_reducible first | exact HB.out | apply below_alloc | apply pw_below_drewN | apply below_drew1 | refine below_set ?_ GE118.out) | exact HB.out))); (case side2 => exact HC117_3.out); (case side3 => exact Kd.C_below HR117_4.out (by repeat (first | (with_reducible first | exact HB.out | apply below_alloc | apply pw_below_drewN | apply below_drew1 | refine below_set ?_ GE118.out) | exact HB.out))); (case side4 => exact HC117_4.out); rintro e w15 ⟨rfl, hb⟩; refine ⟨_, rfl, ?_⟩; have n0_ := Aside0.mk (Kd.R_below (by (with_reducible repeat (first | apply Kd.R_alloc | apply Kd.R_drewN | apply Kd.R_drew)); exact (Kd.R_mono (Kd.R_far (p := ⟨gb118, 5, none⟩) (Kd.R_far (p := ⟨gb118, 4, none⟩) (Kd.R_far (p := ⟨gb118, 3, none⟩) (Kd.R_far (p := ⟨gb118, 2, none⟩) (Kd.R_far (p := ⟨gb118, 1, none⟩) (Kd.R_far (p := ⟨gb118, 0, none⟩) (Kd.R_mono HO_5.out (fun k_ hk => (⟨hk, hk.2⟩ : _ ∧ k_ ≠ gb118))) (fun _ hk => hk.2) (.int .i64 ((rd_T27 l0 x10_1).f0))) (fun _ hk => hk.2) (.int .i64 ((rd_T27 l0 x10_1).f1.f0))) (fun _ hk => hk.2) (.string ((rd_T27 l0 x10_1).f1.f1))) (fun _ hk => hk.2) (.slice A117_3 ((rd_T27 l0 x10_1).f1.f2).length c117_3)) (fun _ hk => hk.2) (.slice A117_4 ((rd_T27 l0 x10_1).f1.f3).length c117_4)) (fun _ hk => hk.2) (.int .i64 ((rd_T27 l0 x10_1).f2))) (fun _ h_ => h_.1))) hb); have n1_ := Aside0.mk (blk_below (g := gb118) (o := .cells #[.int .i64 ((rd_T27 l0 x10_1).f0), .int .i64 ((rd_T27 l0 x10_1).f1.f0), .string ((rd_T27 l0 x10_1).f1.f1), .slice A117_3 ((rd_T27 l0 x10_1).f1.f2).length c117_3, .slice A117_4 ((rd_T27 l0 x10_1).f1.f3).length c117_4, .int .i64 ((rd_T27 l0 x10_1).f2)] 27 (0, 0)) (by (with_reducible repeat (first | refine blk_drewN ?_ _ | refine blk_drew ?_ | refine blk_alloc ?_ _)); refine blk_put (cs := #[.int .i64 ((rd_T27 l0 x10_1).f0), .int .i64 ((rd_T27 l0 x10_1).f1.f0), .string ((rd_T27 l0 x10_1).f1.f1), .slice A117_3 ((rd_T27 l0 x10_1).f1.f2).length c117_3, .slice A117_4 ((rd_T27 l0 x10_1).f1.f3).length c117_4, .int .i64 0]) ?_ 5 _ rfl; (with_reducible repeat (first | refine blk_drewN ?_ _ | refine blk_drew ?_ | refine blk_alloc ?_ _)); refine blk_put (cs := #[.int .i64 ((rd_T27 l0 x10_1).f0), .int .i64 ((rd_T27 l0 x10_1).f1.f0), .string ((rd_T27 l0 x10_1).f1.f1), .slice A117_3 ((rd_T27 l0 x10_1).f1.f2).length c117_3, .slice none 0 0, .int .i64 0]) ?_ 4 _ rfl; (with_reducible repeat (first | refine blk_drewN ?_ _ | refine blk_drew ?_ | refine blk_alloc ?_ _)); refine blk_put (cs := #[.int .i64 ((rd_T27 l0 x10_1).f0), .int .i64 ((rd_T27 l0 x10_1).f1.f0), .string ((rd_T27 l0 x10_1).f1.f1), .slice none 0 0, .slice none 0 0, .int .i64 0]) ?_ 3 _ rfl; (with_reducible repeat (first | refine blk_drewN ?_ _ | refine blk_drew ?_ | refine blk_alloc ?_ _)); refine blk_put (cs := #[.int .i64 ((rd_T27 l0 x10_1).f0), .int .i64 ((rd_T27 l0 x10_1).f1.f0), .string (⟨#[]⟩ : ByteArray), .slice none 0 0, .slice none 0 0, .int .i64 0]) ?_ 2 _ rfl; (with_reducible repeat (first | refine blk_drewN ?_ _ | refine blk_drew ?_ | refine blk_alloc ?_ _)); refine blk_put (cs := #[.int .i64 ((rd_T27 l0 x10_1).f0), .int .i64 0, .string (⟨#[]⟩ : ByteArray), .slice none 0 0, .slice none 0 0, .int .i64 0]) ?_ 1 _ rfl; (with_reducible repeat (first | refine blk_drewN ?_ _ | refine blk_drew ?_ | refine blk_alloc ?_ _)); refine blk_put (cs := #[.int .i64 0, .int .i64 0, .string (⟨#[]⟩ : ByteArray), .slice none 0 0, .slice none 0 0, .int .i64 0]) ?_ 0 _ rfl; (with_reducible repeat (first | refine blk_drewN ?_ _ | refine blk_drew ?_ | refine blk_alloc ?_ _)); exact BK118.out) hb); have n2_ := Aside0.mk (below_step (by repeat (first | (with_reducible first | exact HB.out | apply below_alloc | apply pw_below_drewN | apply below_drew1 | refine below_set ?_ GE118.out) | exact HB.out)) hb); clear HO_5; clear BK118; clear HB; have HO_5 := n0_; have BK118 := n1_; have HB := n2_; clear n0_ n1_ n2_; (try clear hb); (try clear hb2); (try clear hk); (try clear hi); have hcz16_0 : w15.cell? ⟨gb118, 0, none⟩ = some (.int .i64 ((rd_T27 l0 x10_1).f0)) := (blk_cell BK118.out 0).trans rfl; have hcz16_1 : w15.cell? ⟨gb118, 1, none⟩ = some (.int .i64 ((rd_T27 l0 x10_1).f1.f0)) := (blk_cell BK118.out 1).trans rfl; have hcz16_2 : w15.cell? ⟨gb118, 2, none⟩ = some (.string ((rd_T27 l0 x10_1).f1.f1)) := (blk_cell BK118.out 2).trans rfl; have hcz16_3 : w15.cell? ⟨gb118, 3, none⟩ = some (.slice A117_3 ((rd_T27 l0 x10_1).f1.f2).length c117_3) := (blk_cell BK118.out 3).trans rfl; have hcz16_4 : w15.cell? ⟨gb118, 4, none⟩ = some (.slice A117_4 ((rd_T27 l0 x10_1).f1.f3).length c117_4) := (blk_cell BK118.out 4).trans rfl; have hcz16_5 : w15.cell? ⟨gb118, 5, none⟩ = some (.int .i64 ((rd_T27 l0 x10_1).f2)) := (blk_cell BK118.out 5).trans rfl; have hfz16_0 := blk_frozen BK118.out 0; have hfz16_1 := blk_frozen BK118.out 1; have hfz16_2 := blk_frozen BK118.out 2; have hfz16_3 := blk_frozen BK118.out 3; have hfz16_4 := blk_frozen BK118.out 4; have hfz16_5 := blk_frozen BK118.out 5) | ((with_reducible refine gate_callee (f := 23) rfl ?_); refine goesL_ (some 20) rfl rfl Tryd.func23 (by kernel_rfl) rfl #[.agg #[.int .i64 ((rd_T27 l0 x10_1).f0), .int .i64 ((rd_T27 l0 x10_1).f1.f0), .string ((rd_T27 l0 x10_1).f1.f1), .slice A117_3 ((rd_T27 l0 x10_1).f1.f2).length c117_3, .slice A117_4 ((rd_T27 l0 x10_1).f1.f3).length c117_4, .int .i64 ((rd_T27 l0 x10_1).f2)]] rfl (by (try simp only [List.map_toArray, List.map_cons, List.map_nil]); first | done | rfl | (simp only [List.length_drop, List.length_take]; rfl)) ?_; (with_reducible refine (dead_twin.calls k1 ((rd_T27 l0 x10_1).f0) ((rd_T27 l0 x10_1).f1.f0) ((rd_T27 l0 x10_1).f1.f1) _ _ ((rd_T27 l0 x10_1).f1.f2) _ _ ((rd_T27 l0 x10_1).f1.f3) ((rd_T27 l0 x10_1).f2) t120 t121 t122 t123 t126 t129 _ ?side1 ?side2 ?side3 ?side4 A11.out).mono ?_); (case side1 => repeat (first | exact (Kd.C_below HR117_3.out HB.out) | (with_reducible refine Kd.C_alloc ?_ _) | (with_reducible refine Kd.C_drewN ?_ _) | (with_reducible refine Kd.C_drew ?_))); (case side2 => exact HC117_3.out); (case side3 => repeat (first | exact (Kd.C_below HR117_4.out HB.out) | (with_reducible refine Kd.C_alloc ?_ _) | (with_reducible refine Kd.C_drewN ?_ _) | (with_reducible refine Kd.C_drew ?_))); (case side4 => exact HC117_4.out); rintro e w17 ⟨v124, v127, rfl, ho0, ho1, hb⟩; refine ⟨_, rfl, ?_⟩; have n0_ := Aside0.mk (Kd.R_mono (Kd.R_told (Kd.R_told (Kd.R_old (by (with_reducible repeat (first | apply Kd.R_alloc | apply Kd.R_drewN | apply Kd.R_drew)); exact HO_5.out) hb) (Kd.S_base ho0)) (Kd.S_base ho1)) (fun _ h_ => h_.1)); have n1_ := Aside0.mk (Kd.S_lower ho0 (below_size (by repeat (first | (with_reducible first | exact HB.out | apply below_alloc | apply pw_below_drewN | apply below_drew1 | refine below_set ?_ GE118.out) | exact HB.out)))); have n2_ := Aside0.mk (Kd.S_lower ho1 (below_size (by repeat (first | (with_reducible first | exact HB.out | apply below_alloc | apply pw_below_drewN | apply below_drew1 | refine below_set ?_ GE118.out) | exact HB.out)))); have n3_ := Aside0.mk (blk_below (g := gb118) (o := .cells #[.int .i64 ((rd_T27 l0 x10_1).f0), .int .i64 ((rd_T27 l0 x10_1).f1.f0), .string ((rd_T27 l0 x10_1).f1.f1), .slice A117_3 ((rd_T27 l0 x10_1).f1.f2).length c117_3, .slice A117_4 ((rd_T27 l0 x10_1).f1.f3).length c117_4, .int .i64 ((rd_T27 l0 x10_1).f2)] 27 (0, 0)) (by (with_reducible repeat (first | refine blk_drewN ?_ _ | refine blk_drew ?_ | refine blk_alloc ?_ _)); exact BK118.out) hb); have n4_ := Aside0.mk (below_step (by repeat (first | (with_reducible first | exact HB.out | apply below_alloc | apply pw_below_drewN | apply below_drew1 | refine below_set ?_ GE118.out) | exact HB.out)) hb); clear HO_5; clear BK118; clear HB; have HO_5 := n0_; have HO125 := n1_; have HO128 := n2_; have BK118 := n3_; have HB := n4_; clear n0_ n1_ n2_ n3_ n4_; (try clear hb); (try clear hb2); (try clear hk); (try clear hi); (try clear ho0); (try clear ho1); obtain ⟨Ao19, co19, eo19⟩ := Kd.S_slice HO125.out; subst eo19; obtain ⟨Ao20, co20, eo20⟩ := Kd.S_slice HO128.out; subst eo20) | ((with_reducible refine gate_builtin (b := .append) (xs := #[.tmp 18, .tmp 21]) rfl ?_); at_builtin; refine Kd.R_append k27 (w0 := w) w.heap.size rfl (.tmp 18) (.tmp 21) 22 27 (.agg #[(.int .i64 0), (.int .i64 0), (.string ⟨#[]⟩), (.slice none 0 0), (.slice none 0 0), (.int .i64 0)]) 88 rfl Tryd.underlying22 info27 rfl (by decide) (by omega) u5 x5_1 (⟨t120, (⟨t121, t122, t123, t126⟩ : S25), t129⟩ : S27) [.int .i64 t120, .int .i64 t121, .string t122, .slice Ao19 t123.length co19, .slice Ao20 t126.length co20, .int .i64 t129] (fun k_ => k_ ≠ gb118) (fun k_ => ((fun k_ => k_ ≠ gb118)) k_ ∧ some k_ ≠ (u5 : Value).ownBlock) rfl rfl ?aP (fun _ hk => hk) ?aF ?aO ?aB ?aS ?aL ?_; (case aP => exact k27_mkM _ _ _ (⟨t120, (⟨t121, t122, t123, t126⟩ : S25), t129⟩ : S27) (Kd.R_mono (Kd.R_types (Kd.R_apart' ((Kd.S_R HO125.out)) (Kd.R_typed HO_5.out) (by decide)) BK118.out (by decide)) (fun k_ hk => ⟨hk.2, hk.1.2⟩)) (Kd.R_mono (Kd.R_types (Kd.R_apart' ((Kd.S_R HO128.out)) (Kd.R_typed HO_5.out) (by decide)) BK118.out (by decide)) (fun k_ hk => ⟨hk.2, hk.1.2⟩))); (case aB => exact (by repeat (first | (with_reducible first | exact HB.out | apply below_alloc | apply pw_below_drewN | apply below_drew1 | refine below_set ?_ GE118.out) | exact HB.out))); (case aF => exact (fun k_ hk => Kd.freshB (g := gb118) (o := .cells #[.int .i64 ((rd_T27 l0 x10_1).f0), .int .i64 ((rd_T27 l0 x10_1).f1.f0), .string ((rd_T27 l0 x10_1).f1.f1), .slice A117_3 ((rd_T27 l0 x10_1).f1.f2).length c117_3, .slice A117_4 ((rd_T27 l0 x10_1).f1.f3).length c117_4, .int .i64 ((rd_T27 l0 x10_1).f2)] 27 (0, 0)) (by (with_reducible repeat (first | refine blk_drewN ?_ _ | refine blk_drew ?_ | refine blk_alloc ?_ _)); exact BK118.out) k_ hk)); (case aO => exact (by (with_reducible repeat (first | apply Kd.R_alloc | apply Kd.R_drewN | apply Kd.R_drew)); exact Kd.R_mono HO_5.out (fun _ hk => hk.1.1.2))); (case aS => exact (below_size (by repeat (first | (with_reducible first | exact HB.out | apply below_alloc | apply pw_below_drewN | apply below_drew1 | refine below_set ?_ GE118.out) | exact HB.out)))); (case aL => have := LMc12.out; omega); intro v131 w18 ho hb hg hat; rw [← Ny130.out] at ho; have n0_ := Aside0.mk (blk_grown (g := gb118) (o := .cells #[.int .i64 ((rd_T27 l0 x10_1).f0), .int .i64 ((rd_T27 l0 x10_1).f1.f0), .string ((rd_T27 l0 x10_1).f1.f1), .slice A117_3 ((rd_T27 l0 x10_1).f1.f2).length c117_3, .slice A117_4 ((rd_T27 l0 x10_1).f1.f3).length c117_4, .int .i64 ((rd_T27 l0 x10_1).f2)] 27 (0, 0)) (by (with_reducible repeat (first | refine blk_drewN ?_ _ | refine blk_drew ?_ | refine blk_alloc ?_ _)); exact BK118.out) hg (Kd.R_away HO_5.out (fun _ hk => hk.1.1.2))); have n1_ := Aside0.mk (hb); have n2_ := Aside0.mk (ho); clear BK118; clear HB; clear HO_5; clear HO125; clear HO128; have BK118 := n0_; have HB := n1_; have HO132 := n2_; clear n0_ n1_ n2_; clear ho hb hg hat))
                go_roundg k1
                case measure => have := HK1.out; omega
                case rel => exact ⟨(y130), (wrap64 (x10_1 + 1)), (by first | rfl | (simp; done) | (simp [*]; done)), H', ⟨by have := HK1.out; omega⟩, ⟨by (with_reducible repeat (first | apply Kd.R_alloc | apply Kd.R_drewN | apply Kd.R_drew)); exact Kd.R_mono HO132.out (fun _ hk => trivial)⟩, ⟨by repeat (first | (with_reducible first | exact HB.out | apply below_alloc | apply pw_below_drewN | apply below_drew1 | refine below_set ?_ GE118.out) | exact HB.out)⟩⟩
              · rw [if_neg c12] at H
                exact absurd H (by simp)
          · rw [if_neg c5] at H
            exact absurd H (by simp)
        · rw [if_neg c4] at H
          exact absurd H (by simp)
      · rw [if_neg c3] at H
        have c3b0 : decide (x10_1 < (l0.length : Int)) = false := decide_eq_false c3
        clear c3
        obtain rfl := Option.some.inj H
        go_wp2
        go_ret
        exact ⟨_, by first | rfl | (simp [errW_none, errW_some] <;> rfl) | (simp [*, errW_none, errW_some] <;> rfl), by (with_reducible repeat (first | apply Kd.R_alloc | apply Kd.R_drewN | apply Kd.R_drew)); exact HO_5.out, by repeat (first | (with_reducible first | exact HB.out | apply below_alloc | apply pw_below_drewN | apply below_drew1) | exact HB.out)⟩
theorem dead_none_ok (W : World) : CloOk 22 #[] (fun _ => false) W := by
  intro a0_0 a0_1 a0_2 A0_3 c0_3 l0_3 A0_4 c0_4 l0_4 a0_5 r w hB h1 h2 h3 h4 h
  obtain rfl : false = r := Option.some.inj h
  have HB := Aside0.mk (below_alloc (Below.refl w.heap.size w) (.cells #[.int .i64 a0_0, .int .i64 a0_1, .string a0_2, .slice A0_3 l0_3.length c0_3, .slice A0_4 l0_4.length c0_4, .int .i64 a0_5] 27))
  clear hB h1 h2 h3 h4 h
  show Calls Tryd.prog 22 #[.agg #[.int .i64 a0_0, .int .i64 a0_1, .string a0_2, .slice A0_3 l0_3.length c0_3, .slice A0_4 l0_4.length c0_4, .int .i64 a0_5]] w _
  go_enter Tryd.func22, Tryd.ntmps22
  go_wp2
  go_ret
  exact ⟨rfl, HB.out⟩
def dead_but.f (k : Nat) (l0 : List (S27)) : Option ((List (S27))) := dead_but.g k l0 (fun _ => false)
theorem dead_but.calls (k : Nat) (A0 : Option Addr) (c0 : Nat) (l0 : List (S27)) (r : List (S27)) (w : World) (hr0 : Kd.C k27 w A0 l0.length l0) (hc0 : l0.length ≤ c0) (h : dead_but.f k l0 = some r) :
    Calls Tryd.prog 21 #[.slice A0 l0.length c0, .func (.func 22) #[] #[]] w fun e w' => ∃ v0_ : Value, e = .returned (v0_) ∧ Kd.R k27 27 w' w.heap.size (fun _ => True) v0_ r ∧ Below w.heap.size w w' :=
  dead_but.gcalls 22 _ #[] Tryd.func22 (by kernel_rfl) rfl k A0 c0 l0 _ r w (dead_none_ok w) hr0 hc0 h
end Go.Proofs.YtknbebjphjpgpaaDoor.XD
namespace Go.Proofs.YtknbebjphjpgpaaDoor.XD
open Go.RowKit Go.Proofs.YtknbebjphjpgpaaDoorW.PrintWords Go.Proofs.YtknbebjphjpgpaaDoorW.PrintLast Go.Proofs.YtknbebjphjpgpaaDoorW.PrintMore
set_option linter.unusedVariables false
set_option linter.unusedSimpArgs false
/-- All cells stay, but that a number may turn into another. -/
structure IntRel (w w' : World) : Prop where
  cell : ∀ q v, w.cell? q = some v → w'.cell? q = some v ∨ ∃ z z', v = .int .i64 z ∧ w'.cell? q = some (.int .i64 z')
  free : ∀ q v, w.cell? q = some v → w.frozen? q = false → w'.frozen? q = false
theorem IntRel.refl (w : World) : IntRel w w := ⟨fun _ _ h => Or.inl h, fun _ _ _ h => h⟩
theorem IntRel.trans {a b c : World} (h : IntRel a b) (k : IntRel b c) : IntRel a c := by
  refine ⟨fun q v hv => ?_, fun q v hv hf => ?_⟩
  · rcases h.cell q v hv with h1 | ⟨z, z', rfl, h1⟩
    · exact k.cell q v h1
    · rcases k.cell q _ h1 with h2 | ⟨y, y', _, h2⟩
      · exact Or.inr ⟨z, z', rfl, h2⟩
      · exact Or.inr ⟨z, y', rfl, h2⟩
  · rcases h.cell q v hv with h1 | ⟨z, z', rfl, h1⟩
    · exact k.free q _ h1 (h.free q v hv hf)
    · exact k.free q _ h1 (h.free q _ hv hf)
theorem IntRel.below {w w' : World} (h : Below w.heap.size w w') : IntRel w w' :=
  ⟨fun q v hv => Or.inl ((h.cell (World.block_lt_of_cell? w q hv)).trans hv), fun q v hv hf => (h.frozen (World.block_lt_of_cell? w q hv)).trans hf⟩
theorem frozen_set (w : World) (p q : Addr) (u : Value) : (w.setCell p u).frozen? q = w.frozen? q := by
  first | exact World.frozen?_setCell w p u q | exact World.frozen?_setCell w p q u | simp
theorem IntRel.store {w : World} {p : Addr} {a b : Int} (h : w.cell? p = some (.int .i64 a)) : IntRel w (w.setCell p (.int .i64 b)) := by
  refine ⟨fun q v hv => ?_, fun q v hv hf => ?_⟩
  · by_cases e : p = q
    · subst e
      rw [hv] at h
      injection h with h
      exact Or.inr ⟨a, b, h, World.cell?_setCell_same w p _ hv⟩
    · exact Or.inl ((World.cell?_setCell_other w p q _ e).trans hv)
  · rw [frozen_set]; exact hf
/-- What isn't a number stays. -/
theorem IntRel.keep {w w' : World} (h : IntRel w w') {q : Addr} {v : Value} (hv : w.cell? q = some v) (hn : ∀ z, v ≠ .int .i64 z) : w'.cell? q = some v := by
  rcases h.cell q v hv with h1 | ⟨z, z', rfl, _⟩
  · exact h1
  · exact absurd rfl (hn z)
theorem IntRel.num {w w' : World} (h : IntRel w w') {q : Addr} {z : Int} (hv : w.cell? q = some (.int .i64 z)) : ∃ z', w'.cell? q = some (.int .i64 z') := by
  rcases h.cell q _ hv with h1 | ⟨_, z', _, h1⟩
  · exact ⟨z, h1⟩
  · exact ⟨z', h1⟩
/-- A row of values from block B on: their numbers. -/
def Nums37 (B : Nat) (w : World) (v : Value) : Prop := ∃ A n c, v = .slice A n c ∧ n ≤ 9223372036854775807 ∧ (0 < n → ∃ b, B ≤ b ∧ A = some ⟨b, 0, none⟩ ∧ ∀ j, j < n → ∃ z, w.cell? ⟨b, j * 4 + 1, none⟩ = some (.int .i64 z) ∧ w.frozen? ⟨b, j * 4 + 1, none⟩ = false)
theorem nums_of {w : World} {base : Nat} {ok : Nat → Prop} {v : Value} {xs : List S37} (h : k37.R 37 w base ok v xs) : Nums37 base w v := by
  have h0 := h
  obtain ⟨A, c, rfl, hc, hC⟩ := Kd.R_reads h0
  refine ⟨A, xs.length, c, rfl, hC.2.1, fun hn => ?_⟩
  obtain ⟨inner, ho⟩ := Kd.R_own h
  rcases ho.2 with ⟨_, hz⟩ | ⟨g, cap, cur, hv, hg, hh, _⟩
  · omega
  · injection hv with hA _ _
    subst hA
    refine ⟨g, hg, rfl, fun j hj => ?_⟩
    obtain ⟨cs, _, hM, hcell⟩ := Kd.R_get h z37 (j : Int) (by omega) (by omega)
    obtain ⟨v3, rfl, _⟩ := k37_openM hM
    have := hcell 1 _ rfl
    rw [Int.toNat_natCast, add_plain] at this
    exact ⟨_, this, blk_frozen hh _⟩
/-- A row of letters from block B on: what the law reads of each, and the numbers that it writes into. -/
def Letters (B : Nat) (w : World) (v : Value) : Prop := ∃ A n c, v = .slice A n c ∧ n ≤ 9223372036854775807 ∧ (0 < n → ∃ b, A = some ⟨b, 0, none⟩ ∧ ∀ j, j < n → ∃ x0 x1 s A3 m3 c3 v4 x5, w.cell? ⟨b, j * 6, none⟩ = some (.int .i64 x0) ∧ w.cell? ⟨b, j * 6 + 1, none⟩ = some (.int .i64 x1) ∧ w.cell? ⟨b, j * 6 + 2, none⟩ = some (.string s) ∧ w.cell? ⟨b, j * 6 + 3, none⟩ = some (.slice A3 m3 c3) ∧ w.cell? ⟨b, j * 6 + 4, none⟩ = some v4 ∧ Nums37 B w v4 ∧ w.cell? ⟨b, j * 6 + 5, none⟩ = some (.int .i64 x5))
theorem letters_of {w : World} {base : Nat} {ok : Nat → Prop} {v : Value} {xs : List S27} (h : k27.R 27 w base ok v xs) : Letters base w v := by
  have h0 := h
  obtain ⟨A, c, rfl, hc, hC⟩ := Kd.R_reads h0
  refine ⟨A, xs.length, c, rfl, hC.2.1, fun hn => ?_⟩
  obtain ⟨inner, ho⟩ := Kd.R_own h
  rcases ho.2 with ⟨_, hz⟩ | ⟨g, cap, cur, hv, hg, hh, _⟩
  · omega
  · injection hv with hA _ _
    subst hA
    refine ⟨g, rfl, fun j hj => ?_⟩
    obtain ⟨cs, _, hM, hcell⟩ := Kd.R_get h z27 (j : Int) (by omega) (by omega)
    obtain ⟨v3, v4, rfl, h3, h4⟩ := k27_openM hM
    have q0 := hcell 0 _ rfl
    have q1 := hcell 1 _ rfl
    have q2 := hcell 2 _ rfl
    have q3 := hcell 3 _ rfl
    have q4 := hcell 4 _ rfl
    have q5 := hcell 5 _ rfl
    rw [Int.toNat_natCast, add_plain] at q0 q1 q2 q3 q4 q5
    obtain ⟨A3, c3, e3⟩ := Kd.R_slice h3
    subst e3
    exact ⟨_, _, _, A3, _, c3, v4, _, q0, q1, q2, q3, q4, nums_of h4, q5⟩
theorem Nums37.keep {B : Nat} {w w' : World} {v : Value} (h : Nums37 B w v) (hr : IntRel w w') : Nums37 B w' v := by
  obtain ⟨A, n, c, e, hn, hh⟩ := h
  refine ⟨A, n, c, e, hn, fun h0 => ?_⟩
  obtain ⟨b, hb, ea, hc⟩ := hh h0
  refine ⟨b, hb, ea, fun j hj => ?_⟩
  obtain ⟨z, h1, h2⟩ := hc j hj
  obtain ⟨z', h3⟩ := hr.num h1
  exact ⟨z', h3, hr.free _ _ h1 h2⟩
theorem Letters.keep {B : Nat} {w w' : World} {v : Value} (h : Letters B w v) (hr : IntRel w w') : Letters B w' v := by
  obtain ⟨A, n, c, e, hn, hh⟩ := h
  refine ⟨A, n, c, e, hn, fun h0 => ?_⟩
  obtain ⟨b, ea, hc⟩ := hh h0
  refine ⟨b, ea, fun j hj => ?_⟩
  obtain ⟨x0, x1, s, A3, m3, c3, v4, x5, q0, q1, q2, q3, q4, n4, q5⟩ := hc j hj
  obtain ⟨y0, p0⟩ := hr.num q0
  obtain ⟨y1, p1⟩ := hr.num q1
  obtain ⟨y5, p5⟩ := hr.num q5
  have e4 : ∀ z, v4 ≠ .int .i64 z := by
    obtain ⟨A4, n4', c4, e4, _⟩ := n4
    intro z hz; rw [e4] at hz; cases hz
  exact ⟨y0, y1, s, A3, m3, c3, v4, y5, p0, p1, hr.keep q2 (fun z hz => by cases hz), hr.keep q3 (fun z hz => by cases hz), hr.keep q4 e4, n4.keep hr, p5⟩
end Go.Proofs.YtknbebjphjpgpaaDoor.XD
namespace Go.Proofs.YtknbebjphjpgpaaDoor.Open
open Go.RowKit Go.Proofs.YtknbebjphjpgpaaDoorW.PrintWords
set_option linter.unusedVariables false
theorem add_add (a : Addr) (m j : Nat) : (a.add m).add j = a.add (m + j) := by
  unfold Addr.add
  by_cases hm : m = 0 <;> by_cases hj : j = 0 <;> simp [hm, hj, Nat.add_assoc]
/-- Whatever reads as data of type t, with rounds up to n and all its weights within the reach, is a value of the kind k that meets G. -/
def Opens {α : Type} (n : Nat) (P : Program) (t : TypeId) (k : Kd α) (G : α → Prop) : Prop :=
  ∀ (H : Type) (enc : TypeId × Value → H) (w : World) (sp : Nat → Bool) (held : Bool) (fuel : Nat) (cs : List Value) (x : DataW H × List MemPlace), fuel ≤ n →
    DataW.trod enc P w 0 sp held fuel t cs = some x → (∀ b ∈ x.1.weights P t, b ≤ reachBytes) → ∃ v, k.K w v cs ∧ G v
theorem Opens.zero {α : Type} {P : Program} {t : TypeId} {k : Kd α} {G : α → Prop} : Opens 0 P t k G := by
  intro H enc w sp held fuel cs x hf ht hw
  obtain rfl : fuel = 0 := by omega
  simp [DataW.trod] at ht
theorem opens_int {n : Nat} {P : Program} {t : TypeId} {k : IntKind} (hu : P.underlying t = some (.int k)) : Opens n P t (Kd.int k) (fun v => (Lit.int k v).wf = true) := by
  intro H enc w sp held fuel cs x hf ht hw
  obtain ⟨m, rfl, rfl, h⟩ := DataW.trod_int hu ht
  exact ⟨m, rfl, h⟩
theorem opens_string {n : Nat} {P : Program} {t : TypeId} (hu : P.underlying t = some .string) : Opens n P t Kd.string (fun s => s.size ≤ 140737488351232) := by
  intro H enc w sp held fuel cs x hf ht hw
  obtain ⟨s, rfl, rfl, hm⟩ := DataW.trod_string hu ht
  refine ⟨s, rfl, ?_⟩
  have := hw s.data.toList.length (by simp [DataW.weights])
  simpa [reachBytes] using this
theorem weights_all_mem {H : Type} {P : Program} {e : TypeId} : ∀ {ds : List (DataW H)} {i : Nat} {d : DataW H}, ds[i]? = some d → ∀ b ∈ d.weights P e, b ∈ DataW.weightsAll P e ds
  | d0 :: ds, 0, d, h, b, hb => by
    simp only [List.getElem?_cons_zero, Option.some.injEq] at h
    subst h
    simp only [DataW.weightsAll, List.mem_append]
    exact Or.inl hb
  | d0 :: ds, i + 1, d, h, b, hb => by
    simp only [List.getElem?_cons_succ] at h
    simp only [DataW.weightsAll, List.mem_append]
    exact Or.inr (weights_all_mem h b hb)
  | [], _, _, h, _, _ => by simp at h
/-- A slice: its elements each, and its bytes. -/
theorem opens_slice {α : Type} {n : Nat} {P : Program} {t e : TypeId} {k : Kd α} {G : α → Prop} (hu : P.underlying t = some (.slice e)) (hc : P.cellsOf e = k.sz) (h : Opens n P e k G) :
    Opens (n + 1) P t (Kd.slice e k) (fun xs => xs.length * P.bytesOf e ≤ 140737488351232 ∧ xs.length ≤ maxLen ∧ ∀ v ∈ xs, G v) := by
  intro H enc w sp held fuel cs x hf ht hw
  rcases DataW.trod_slice hu ht with ⟨rfl, rfl⟩ | ⟨a, len, cap, elems, rest, m, rfl, rfl, rfl, _, hl, hm, hel, hall, _, _⟩
  · exact ⟨[], ⟨none, 0, rfl, Nat.le_refl _, rfl, by simp, fun h => absurd h (by simp)⟩, by simp, by simp, by simp⟩
  · have each : ∀ i, i < len → ∃ v, G v ∧ ∃ c, k.K w v c ∧ ∀ j u, c[j]? = some u → w.cell? (a.add (i * k.sz + j)) = some u := by
      intro i hi
      have h1 := hall i hi
      have hi' : i < elems.length := by omega
      rw [List.getElem?_eq_getElem hi'] at h1
      obtain ⟨c, hcs, htr⟩ := Option.bind_eq_some_iff.1 h1
      have hget : (elems.map (·.1))[i]? = some elems[i].1 := by simp [hi']
      obtain ⟨v, hk, hv⟩ := h H enc w sp held m c elems[i] (by omega) htr (fun b hb => hw b (by
        simp only [DataW.weights, hu, List.mem_cons, List.mem_append]
        exact Or.inr (Or.inl (weights_all_mem hget b hb))))
      refine ⟨v, hv, c, hk, fun j u hj => ?_⟩
      obtain ⟨_, hl2, hcell⟩ := World.cells?_some hcs
      have hjl : j < c.length := (List.getElem?_eq_some_iff.1 hj).1
      have := hcell j (by omega)
      rw [hj, add_add, hc] at this
      exact this
    have key : ∀ m, m ≤ len → ∃ vs : List α, vs.length = m ∧ (∀ v ∈ vs, G v) ∧ ∀ j p, vs[j]? = some p → ∃ c, k.K w p c ∧ ∀ i u, c[i]? = some u → w.cell? (a.add (j * k.sz + i)) = some u := by
      intro m
      induction m with
      | zero => exact fun _ => ⟨[], rfl, by simp, by simp⟩
      | succ m ih =>
        intro hle
        obtain ⟨vs, hvl, hvg, hvc⟩ := ih (by omega)
        obtain ⟨v, hg, c, hk, hcell⟩ := each m (by omega)
        refine ⟨vs ++ [v], by simp [hvl], fun y hy => ?_, fun j p hp => ?_⟩
        · rcases List.mem_append.1 hy with hy | hy
          · exact hvg y hy
          · rw [List.mem_singleton.1 hy]; exact hg
        · rcases Nat.lt_or_ge j vs.length with hj | hj
          · rw [List.getElem?_append_left hj] at hp
            exact hvc j p hp
          · have : j < (vs ++ [v]).length := (List.getElem?_eq_some_iff.1 hp).1
            have hjm : j = vs.length := by simp at this; omega
            subst hjm
            have hq : v = p := by simpa using hp
            subst hq
            rw [hvl]
            exact ⟨c, hk, hcell⟩
    obtain ⟨vs, hvl, hvg, hvc⟩ := key len (Nat.le_refl _)
    refine ⟨vs, ⟨some a, cap, by rw [hvl], by omega, hvl ▸ rfl, by rw [hvl]; simp only [maxLen] at hm; omega, fun _ => ⟨a, rfl, fun j p hp => ?_⟩⟩, ?_, by omega, hvg⟩
    · obtain ⟨c, hk, hcell⟩ := hvc j p hp
      exact ⟨c, k.K_len hk, hk, hcell⟩
    · have hw1 := hw ((elems.length + rest.length) * P.bytesOf e) (by simp [DataW.weights, hu])
      have hw2 : vs.length * P.bytesOf e ≤ (elems.length + rest.length) * P.bytesOf e := Nat.mul_le_mul_right _ (by omega)
      simp only [reachBytes] at hw1
      omega
/-- Fields in line, from the offset on. -/
def OpensF {α : Type} (n : Nat) (P : Program) (off : Nat) (fs : List Field) (k : Kd α) (G : α → Prop) : Prop :=
  ∀ (H : Type) (enc : TypeId × Value → H) (w : World) (sp : Nat → Bool) (held : Bool) (fuel : Nat) (cs : List Value) (xs : List (DataW H × List MemPlace)), fuel ≤ n → cs.length = off + k.sz → xs.length = fs.length →
    (∀ (i : Nat) (f : Field), fs[i]? = some f → DataW.trod enc P w 0 sp held fuel f.type ((cs.drop f.offset).take (P.cellsOf f.type)) = xs[i]?) →
    (∀ b ∈ DataW.weightsEach P (fs.map Field.type) (xs.map (·.1)), b ≤ reachBytes) → ∃ v, k.K w v (cs.drop off) ∧ G v
theorem OpensF.last {α : Type} {n : Nat} {P : Program} {off : Nat} {f : Field} {k : Kd α} {G : α → Prop} (ho : f.offset = off) (hc : P.cellsOf f.type = k.sz) (h : Opens n P f.type k G) : OpensF n P off [f] k G := by
  intro H enc w sp held fuel cs xs hf hl hxl hall hw
  match xs, hxl with
  | [x], _ =>
    have h1 := hall 0 f rfl
    rw [ho, hc, List.take_of_length_le (by rw [List.length_drop]; omega)] at h1
    exact h H enc w sp held fuel _ x hf h1 (fun b hb => hw b (by simpa [DataW.weightsEach] using hb))
theorem OpensF.cons {α β : Type} {n : Nat} {P : Program} {off : Nat} {f : Field} {fs : List Field} {k : Kd α} {k' : Kd β} {G : α → Prop} {G' : β → Prop} (ho : f.offset = off) (hc : P.cellsOf f.type = k.sz)
    (h : Opens n P f.type k G) (h' : OpensF n P (off + k.sz) fs k' G') : OpensF n P off (f :: fs) (Kd.pair k k') (fun v => G v.1 ∧ G' v.2) := by
  intro H enc w sp held fuel cs xs hf hl hxl hall hw
  match xs, hxl with
  | x :: xs, hxl =>
    have hl' : cs.length = off + (k.sz + k'.sz) := hl
    have h1 := hall 0 f rfl
    rw [ho, hc] at h1
    obtain ⟨v, hk, hg⟩ := h H enc w sp held fuel _ x hf h1 (fun b hb => hw b (by simp only [List.map_cons, DataW.weightsEach, List.mem_append]; exact Or.inl hb))
    obtain ⟨v', hk', hg'⟩ := h' H enc w sp held fuel cs xs hf (by omega) (by simpa using hxl) (fun i g hi => by simpa using hall (i + 1) g (by simpa using hi)) (fun b hb => hw b (by simp only [List.map_cons, DataW.weightsEach, List.mem_append]; exact Or.inr hb))
    refine ⟨(v, v'), ⟨_, _, ?_, hk, hk'⟩, hg, hg'⟩
    rw [← List.drop_drop]
    exact (List.take_append_drop _ _).symm
/-- A struct, as a Lean structure of its own: f tells its fields, g makes it. -/
theorem opens_struct {α β : Type} {n : Nat} {P : Program} {t : TypeId} {fs : Array Field} {k : Kd α} {G : α → Prop} (f : β → α) (g : α → β) (hfg : ∀ x, f (g x) = x) (hu : P.underlying t = some (.struct fs)) (hc : P.cellsOf t = k.sz)
    (h : OpensF n P 0 fs.toList k G) : Opens (n + 1) P t (Kd.iso k f) (fun v => G (f v)) := by
  intro H enc w sp held fuel cs x hf ht hw
  obtain ⟨xs, m, rfl, rfl, hl, hxl, hall⟩ := DataW.trod_struct hu ht
  obtain ⟨v, hk, hg⟩ := h H enc w sp held m cs xs (by omega) (by rw [hl, hc]; omega) (by simpa using hxl) (fun i f hi => hall i f (by simpa using hi)) (fun b hb => hw b (by simpa [DataW.weights, hu] using hb))
  rw [List.drop_zero] at hk
  exact ⟨g v, by show k.K w (f (g v)) cs; rw [hfg]; exact hk, by show G (f (g v)); rw [hfg]; exact hg⟩
theorem opens_slice' {α : Type} {n : Nat} {P : Program} {t e : TypeId} {k : Kd α} {G : α → Prop} (hu : P.underlying t = some (.slice e)) (hc : P.cellsOf e = k.sz) (h : ∀ m, m < n → Opens m P e k G) :
    Opens n P t (Kd.slice e k) (fun xs => xs.length * P.bytesOf e ≤ 140737488351232 ∧ xs.length ≤ maxLen ∧ ∀ v ∈ xs, G v) := by
  cases n with
  | zero => exact Opens.zero
  | succ n => exact opens_slice hu hc (h n (by omega))
theorem opens_struct' {α β : Type} {n : Nat} {P : Program} {t : TypeId} {fs : Array Field} {k : Kd α} {G : α → Prop} (f : β → α) (g : α → β) (hfg : ∀ x, f (g x) = x) (hu : P.underlying t = some (.struct fs)) (hc : P.cellsOf t = k.sz)
    (h : ∀ m, m < n → OpensF m P 0 fs.toList k G) : Opens n P t (Kd.iso k f) (fun v => G (f v)) := by
  cases n with
  | zero => exact Opens.zero
  | succ n => exact opens_struct f g hfg hu hc (h n (by omega))
/-- A kind told otherwise. -/
theorem Opens.of {α β : Type} {n : Nat} {P : Program} {t : TypeId} {k : Kd α} {k' : Kd β} {G : α → Prop} {G' : β → Prop} (h : Opens n P t k G) (f : α → β) (hk : ∀ w v cs, k.K w v cs → k'.K w (f v) cs) (hg : ∀ v, G v → G' (f v)) : Opens n P t k' G' := by
  intro H enc w sp held fuel cs x hf ht hw
  obtain ⟨v, hkv, hv⟩ := h H enc w sp held fuel cs x hf ht hw
  exact ⟨f v, hk _ _ _ hkv, hg v hv⟩
theorem arg_weights {H : Type} {P : Program} {ts : List TypeId} {ds : List (DataW H)} (hsz : (DataW.weightsEach P ts ds).all (· ≤ reachBytes) = true) {j : Nat} {t : TypeId} {d : DataW H} (ht : ts[j]? = some t) (hd : ds[j]? = some d) : ∀ b ∈ d.weights P t, b ≤ reachBytes := by
  intro b hb
  simpa using List.all_eq_true.1 hsz _ (DataW.weights_mem_each ht hd b hb)
theorem Opens.arg {α : Type} {P : Program} {t : TypeId} {k : Kd α} {G : α → Prop} (h : ∀ n, Opens n P t k G) {H : Type} {enc : TypeId × Value → H} {w : World} {v : Value} {d : DataW H} {ps : List MemPlace}
    (ht : DataW.Trod enc P w 0 (fun _ => true) true t v d ps) (hw : ∀ b ∈ d.weights P t, b ≤ reachBytes) : ∃ x, k.K w x v.cells.toList ∧ G x := by
  obtain ⟨fuel, hf⟩ := ht
  exact h fuel H enc w _ _ fuel _ _ (Nat.le_refl _) hf hw
end Go.Proofs.YtknbebjphjpgpaaDoor.Open
namespace Go.Proofs.YtknbebjphjpgpaaDoor.XD
open Go.RowKit Go.Proofs.YtknbebjphjpgpaaDoorW.PrintWords Go.Proofs.YtknbebjphjpgpaaDoor.Open
set_option linter.unusedVariables false
inductive G37 : S37 → Prop
  | mk {x : S37} (h0 : (Lit.int .i64 x.f0).wf = true) (h1 : (Lit.int .i64 x.f1).wf = true) (h2 : x.f2.size ≤ 140737488351232) (h3a : x.f3.length * Tryd.prog.bytesOf 2 ≤ 140737488351232) (h3b : x.f3.length ≤ maxLen) (h3 : ∀ y ∈ x.f3, (Lit.int .i64 y).wf = true) : G37 x
theorem opens_k37 (n : Nat) : Opens n Tryd.prog 37 k37 G37 := by
  refine Opens.of (opens_struct' (k := (Kd.pair (Kd.int .i64) (Kd.pair (Kd.int .i64) (Kd.pair Kd.string (Kd.slice 2 (Kd.int .i64)))))) id id (fun _ => rfl) Tryd.underlying37 (by kernel_rfl) (fun _ _ => (OpensF.cons rfl (by kernel_rfl) (opens_int Tryd.underlying3) (OpensF.cons rfl (by kernel_rfl) (opens_int Tryd.underlying2) (OpensF.cons rfl (by kernel_rfl) (opens_string Tryd.underlying9) (OpensF.last rfl (by kernel_rfl) (opens_slice' Tryd.underlying35 (by kernel_rfl) (fun _ _ => (opens_int Tryd.underlying2))))))))) (fun v => (⟨v.1, v.2.1, v.2.2.1, v.2.2.2⟩ : S37)) (fun _ _ _ h => h) ?_
  rintro ⟨v0, v1, v2, v3⟩ ⟨g0, g1, g2, g3⟩
  exact .mk g0 g1 g2 g3.1 g3.2.1 g3.2.2
inductive G25 : S25 → Prop
  | mk {x : S25} (h0 : (Lit.int .i64 x.f0).wf = true) (h1 : x.f1.size ≤ 140737488351232) (h2a : x.f2.length * Tryd.prog.bytesOf 37 ≤ 140737488351232) (h2b : x.f2.length ≤ maxLen) (h2 : ∀ y ∈ x.f2, G37 y) (h3a : x.f3.length * Tryd.prog.bytesOf 37 ≤ 140737488351232) (h3b : x.f3.length ≤ maxLen) (h3 : ∀ y ∈ x.f3, G37 y) : G25 x
theorem opens_k25 (n : Nat) : Opens n Tryd.prog 25 k25 G25 := by
  refine Opens.of (opens_struct' (k := (Kd.pair (Kd.int .i64) (Kd.pair Kd.string (Kd.pair (Kd.slice 37 k37) (Kd.slice 37 k37))))) id id (fun _ => rfl) Tryd.underlying25 (by kernel_rfl) (fun _ _ => (OpensF.cons rfl (by kernel_rfl) (opens_int Tryd.underlying2) (OpensF.cons rfl (by kernel_rfl) (opens_string Tryd.underlying9) (OpensF.cons rfl (by kernel_rfl) (opens_slice' Tryd.underlying23 (by kernel_rfl) (fun _ _ => (opens_k37 _))) (OpensF.last rfl (by kernel_rfl) (opens_slice' Tryd.underlying23 (by kernel_rfl) (fun _ _ => (opens_k37 _))))))))) (fun v => (⟨v.1, v.2.1, v.2.2.1, v.2.2.2⟩ : S25)) (fun _ _ _ h => h) ?_
  rintro ⟨v0, v1, v2, v3⟩ ⟨g0, g1, g2, g3⟩
  exact .mk g0 g1 g2.1 g2.2.1 g2.2.2 g3.1 g3.2.1 g3.2.2
inductive G27 : S27 → Prop
  | mk {x : S27} (h0 : (Lit.int .i64 x.f0).wf = true) (h1 : G25 x.f1) (h2 : (Lit.int .i64 x.f2).wf = true) : G27 x
theorem opens_k27 (n : Nat) : Opens n Tryd.prog 27 k27 G27 := by
  refine Opens.of (opens_struct' (k := (Kd.pair (Kd.int .i64) (Kd.pair k25 (Kd.int .i64)))) id id (fun _ => rfl) Tryd.underlying27 (by kernel_rfl) (fun _ _ => (OpensF.cons rfl (by kernel_rfl) (opens_int Tryd.underlying2) (OpensF.cons rfl (by kernel_rfl) (opens_k25 _) (OpensF.last rfl (by kernel_rfl) (opens_int Tryd.underlying3)))))) (fun v => (⟨v.1, v.2.1, v.2.2⟩ : S27)) (fun _ _ _ h => h) ?_
  rintro ⟨v0, v1, v2⟩ ⟨g0, g1, g2⟩
  exact .mk g0 g1 g2
end Go.Proofs.YtknbebjphjpgpaaDoor.XD
namespace Go.Proofs.YtknbebjphjpgpaaDoor.XD
open Go.RowKit Go.Proofs.YtknbebjphjpgpaaDoorW.PrintWords Go.Proofs.YtknbebjphjpgpaaDoorW.PrintLast Go.Proofs.YtknbebjphjpgpaaDoorW.PrintMore
attribute [local go_sem] max2_int min2_int max_two min_two max_three min_three max_four min_four   -- for this text's walks alone
set_option linter.unusedVariables false
set_option linter.unusedSimpArgs false
mutual
def switchyardref06_Same.j0 : Nat → Bool → Int → Int → ByteArray → List Int → Int → Int → ByteArray → List Int → Option (Bool)
  | 0, _, _, _, _, _, _, _, _, _ => none
  | k + 1, x5, x173000, x173001, x173002, x173003, x174000, x174001, x174002, x174003 => switchyardref06_Same.l0 k x5 0 x173000 x173001 x173002 x173003 x174000 x174001 x174002 x174003
def switchyardref06_Same.l0 : Nat → Bool → Int → Int → Int → ByteArray → List Int → Int → Int → ByteArray → List Int → Option (Bool)
  | 0, _, _, _, _, _, _, _, _, _, _ => none
  | k + 1, x5, x6, x173000, x173001, x173002, x173003, x174000, x174001, x174002, x174003 => if x5 = true then (if x6 < (x173003.length : Int) then (if 0 ≤ x6 then (if x6 < (x174003.length : Int) then (switchyardref06_Same.l0 k ((rd x173003 x6) == (rd x174003 x6)) (wrap64 (x6 + 1)) x173000 x173001 x173002 x173003 x174000 x174001 x174002 x174003) else (none)) else (none)) else (some x5)) else (some x5)
end
def switchyardref06_Same.f (k : Nat) (a0_0 : Int) (a0_1 : Int) (a0_2 : ByteArray) (l0_3 : List Int) (a1_0 : Int) (a1_1 : Int) (a1_2 : ByteArray) (l1_3 : List Int) : Option (Bool) := if a0_0 = a1_0 then (if a0_1 = a1_1 then (if a0_2.toList = a1_2.toList then (switchyardref06_Same.j0 k ((l0_3.length : Int) == (l1_3.length : Int)) a0_0 a0_1 a0_2 l0_3 a1_0 a1_1 a1_2 l1_3) else (switchyardref06_Same.j0 k false a0_0 a0_1 a0_2 l0_3 a1_0 a1_1 a1_2 l1_3)) else (switchyardref06_Same.j0 k false a0_0 a0_1 a0_2 l0_3 a1_0 a1_1 a1_2 l1_3)) else (switchyardref06_Same.j0 k false a0_0 a0_1 a0_2 l0_3 a1_0 a1_1 a1_2 l1_3)
set_option maxHeartbeats 600000 in
set_option maxRecDepth 100000 in
theorem switchyardref06_Same.calls (k : Nat) (a0_0 : Int) (a0_1 : Int) (a0_2 : ByteArray) (A0_3 : Option Addr) (c0_3 : Nat) (l0_3 : List Int) (a1_0 : Int) (a1_1 : Int) (a1_2 : ByteArray) (A1_3 : Option Addr) (c1_3 : Nat) (l1_3 : List Int) (r : Bool) (w : World) (hr0_3 : Kd.C (Kd.int .i64) w A0_3 l0_3.length l0_3) (hc0_3 : l0_3.length ≤ c0_3) (hr1_3 : Kd.C (Kd.int .i64) w A1_3 l1_3.length l1_3) (hc1_3 : l1_3.length ≤ c1_3) (h : switchyardref06_Same.f k a0_0 a0_1 a0_2 l0_3 a1_0 a1_1 a1_2 l1_3 = some r) :
    Calls Tryd.prog 31 #[.agg #[.int .i64 a0_0, .int .i64 a0_1, .string a0_2, .slice A0_3 l0_3.length c0_3], .agg #[.int .i64 a1_0, .int .i64 a1_1, .string a1_2, .slice A1_3 l1_3.length c1_3]] w fun e w' => e = .returned (.bool r) ∧ Below w.heap.size w w' := by
  have hu37 := Tryd.underlying37
  have HR0_3 := Aside0.mk hr0_3
  have HC0_3 := Aside0.mk hc0_3
  clear hr0_3 hc0_3
  have HR1_3 := Aside0.mk hr1_3
  have HC1_3 := Aside0.mk hc1_3
  clear hr1_3 hc1_3
  have HB := Aside0.mk (Below.refl w.heap.size w)
  have H : (if a0_0 = a1_0 then (if a0_1 = a1_1 then (if a0_2.toList = a1_2.toList then (switchyardref06_Same.j0 k ((l0_3.length : Int) == (l1_3.length : Int)) a0_0 a0_1 a0_2 l0_3 a1_0 a1_1 a1_2 l1_3) else (switchyardref06_Same.j0 k false a0_0 a0_1 a0_2 l0_3 a1_0 a1_1 a1_2 l1_3)) else (switchyardref06_Same.j0 k false a0_0 a0_1 a0_2 l0_3 a1_0 a1_1 a1_2 l1_3)) else (switchyardref06_Same.j0 k false a0_0 a0_1 a0_2 l0_3 a1_0 a1_1 a1_2 l1_3)) = some r := h
  clear h
  have HC3 := Aside0.mk H
  clear H
  go_enter Tryd.func31, Tryd.ntmps31
  go_upto_region 1 with (first | ((with_reducible refine gate_dst (N := 2) rfl ?_); (try (refine gate_guard (by rfl) ?_; dsimp only)); refine box_event ?hg (N := 2) ?hd (cs := #[.int .i64 a0_0, .int .i64 a0_1, .string a0_2, .slice A0_3 l0_3.length c0_3]) (t := 37) ?hr ?_; (case hd => rfl); (case hg => rfl); (case hr => first | (go_simp; done) | (go_simp; rfl)); intro gb172 hg w4 hbox hb; have n0_ := Aside0.mk (below_step (by repeat (first | (with_reducible first | exact HB.out | apply below_alloc | apply pw_below_drewN | apply below_drew1) | exact HB.out)) hb); have n1_ := Aside0.mk (hbox); have n2_ := Aside0.mk ((by rw [hg]; exact (below_size (by repeat (first | (with_reducible first | exact HB.out | apply below_alloc | apply pw_below_drewN | apply below_drew1) | exact HB.out))) : w.heap.size ≤ gb172)); have n3_ := Aside0.mk ((by rw [hg]; exact (below_size (by repeat (first | (with_reducible first | exact HB.out | apply below_alloc | apply pw_below_drewN | apply below_drew1) | exact HB.out))) : w.heap.size ≤ gb172)); clear HB; have HB := n0_; have BK172 := n1_; have GW172 := n2_; have GE172 := n3_; clear n0_ n1_ n2_ n3_; clear hb hbox hg) | ((with_reducible refine gate_dst (N := 3) rfl ?_); (try (refine gate_guard (by rfl) ?_; dsimp only)); refine box_event ?hg (N := 3) ?hd (cs := #[.int .i64 a1_0, .int .i64 a1_1, .string a1_2, .slice A1_3 l1_3.length c1_3]) (t := 37) ?hr ?_; (case hd => rfl); (case hg => rfl); (case hr => first | (go_simp; done) | (go_simp; rfl)); intro gb173 hg w5 hbox hb; have n0_ := Aside0.mk (blk_below (g := gb172) (o := .cells #[.int .i64 a0_0, .int .i64 a0_1, .string a0_2, .slice A0_3 l0_3.length c0_3] 37 (0, 0)) (by (with_reducible repeat (first | refine blk_drewN ?_ _ | refine blk_drew ?_ | refine blk_alloc ?_ _)); exact BK172.out) hb); have n1_ := Aside0.mk (below_step (by repeat (first | (with_reducible first | exact HB.out | apply below_alloc | apply pw_below_drewN | apply below_drew1 | refine below_set ?_ GE172.out) | exact HB.out)) hb); have n2_ := Aside0.mk (hbox); have n3_ := Aside0.mk ((by rw [hg]; exact (below_size (by repeat (first | (with_reducible first | exact HB.out | apply below_alloc | apply pw_below_drewN | apply below_drew1 | refine below_set ?_ GE172.out) | exact HB.out))) : w.heap.size ≤ gb173)); have n4_ := Aside0.mk ((by rw [hg]; exact (below_size (by repeat (first | (with_reducible first | exact HB.out | apply below_alloc | apply pw_below_drewN | apply below_drew1 | refine below_set ?_ GE172.out) | exact HB.out))) : w.heap.size ≤ gb173)); have n5_ := Aside0.mk ((by rw [hg]; exact Nat.ne_of_lt (blk_lt (g := gb172) (o := .cells #[.int .i64 a0_0, .int .i64 a0_1, .string a0_2, .slice A0_3 l0_3.length c0_3] 37 (0, 0)) (by (with_reducible repeat (first | refine blk_drewN ?_ _ | refine blk_drew ?_ | refine blk_alloc ?_ _)); exact BK172.out)) : gb172 ≠ gb173)); have n6_ := Aside0.mk ((by rw [hg]; exact Nat.ne_of_gt (blk_lt (g := gb172) (o := .cells #[.int .i64 a0_0, .int .i64 a0_1, .string a0_2, .slice A0_3 l0_3.length c0_3] 37 (0, 0)) (by (with_reducible repeat (first | refine blk_drewN ?_ _ | refine blk_drew ?_ | refine blk_alloc ?_ _)); exact BK172.out)) : gb173 ≠ gb172)); clear BK172; clear HB; have BK172 := n0_; have HB := n1_; have BK173 := n2_; have GW173 := n3_; have GE173 := n4_; have NB172_173 := n5_; have NB173_172 := n6_; clear n0_ n1_ n2_ n3_ n4_ n5_ n6_; clear hb hbox hg))
  repeat (go_quiet (first | ((with_reducible refine gate_dst (N := 2) rfl ?_); (try (refine gate_guard (by rfl) ?_; dsimp only)); refine box_event ?hg (N := 2) ?hd (cs := #[.int .i64 a0_0, .int .i64 a0_1, .string a0_2, .slice A0_3 l0_3.length c0_3]) (t := 37) ?hr ?_; (case hd => rfl); (case hg => rfl); (case hr => first | (go_simp; done) | (go_simp; rfl)); intro gb172 hg w4 hbox hb; have n0_ := Aside0.mk (below_step (by repeat (first | (with_reducible first | exact HB.out | apply below_alloc | apply pw_below_drewN | apply below_drew1) | exact HB.out)) hb); have n1_ := Aside0.mk (hbox); have n2_ := Aside0.mk ((by rw [hg]; exact (below_size (by repeat (first | (with_reducible first | exact HB.out | apply below_alloc | apply pw_below_drewN | apply below_drew1) | exact HB.out))) : w.heap.size ≤ gb172)); have n3_ := Aside0.mk ((by rw [hg]; exact (below_size (by repeat (first | (with_reducible first | exact HB.out | apply below_alloc | apply pw_below_drewN | apply below_drew1) | exact HB.out))) : w.heap.size ≤ gb172)); clear HB; have HB := n0_; have BK172 := n1_; have GW172 := n2_; have GE172 := n3_; clear n0_ n1_ n2_ n3_; clear hb hbox hg) | ((with_reducible refine gate_dst (N := 3) rfl ?_); (try (refine gate_guard (by rfl) ?_; dsimp only)); refine box_event ?hg (N := 3) ?hd (cs := #[.int .i64 a1_0, .int .i64 a1_1, .string a1_2, .slice A1_3 l1_3.length c1_3]) (t := 37) ?hr ?_; (case hd => rfl); (case hg => rfl); (case hr => first | (go_simp; done) | (go_simp; rfl)); intro gb173 hg w5 hbox hb; have n0_ := Aside0.mk (blk_below (g := gb172) (o := .cells #[.int .i64 a0_0, .int .i64 a0_1, .string a0_2, .slice A0_3 l0_3.length c0_3] 37 (0, 0)) (by (with_reducible repeat (first | refine blk_drewN ?_ _ | refine blk_drew ?_ | refine blk_alloc ?_ _)); exact BK172.out) hb); have n1_ := Aside0.mk (below_step (by repeat (first | (with_reducible first | exact HB.out | apply below_alloc | apply pw_below_drewN | apply below_drew1 | refine below_set ?_ GE172.out) | exact HB.out)) hb); have n2_ := Aside0.mk (hbox); have n3_ := Aside0.mk ((by rw [hg]; exact (below_size (by repeat (first | (with_reducible first | exact HB.out | apply below_alloc | apply pw_below_drewN | apply below_drew1 | refine below_set ?_ GE172.out) | exact HB.out))) : w.heap.size ≤ gb173)); have n4_ := Aside0.mk ((by rw [hg]; exact (below_size (by repeat (first | (with_reducible first | exact HB.out | apply below_alloc | apply pw_below_drewN | apply below_drew1 | refine below_set ?_ GE172.out) | exact HB.out))) : w.heap.size ≤ gb173)); have n5_ := Aside0.mk ((by rw [hg]; exact Nat.ne_of_lt (blk_lt (g := gb172) (o := .cells #[.int .i64 a0_0, .int .i64 a0_1, .string a0_2, .slice A0_3 l0_3.length c0_3] 37 (0, 0)) (by (with_reducible repeat (first | refine blk_drewN ?_ _ | refine blk_drew ?_ | refine blk_alloc ?_ _)); exact BK172.out)) : gb172 ≠ gb173)); have n6_ := Aside0.mk ((by rw [hg]; exact Nat.ne_of_gt (blk_lt (g := gb172) (o := .cells #[.int .i64 a0_0, .int .i64 a0_1, .string a0_2, .slice A0_3 l0_3.length c0_3] 37 (0, 0)) (by (with_reducible repeat (first | refine blk_drewN ?_ _ | refine blk_drew ?_ | refine blk_alloc ?_ _)); exact BK172.out)) : gb173 ≠ gb172)); clear BK172; clear HB; have BK172 := n0_; have HB := n1_; have BK173 := n2_; have GW173 := n3_; have GE173 := n4_; have NB172_173 := n5_; have NB173_172 := n6_; clear n0_ n1_ n2_ n3_ n4_ n5_ n6_; clear hb hbox hg)); go_upto_region 1 with (first | ((with_reducible refine gate_dst (N := 2) rfl ?_); (try (refine gate_guard (by rfl) ?_; dsimp only)); refine box_event ?hg (N := 2) ?hd (cs := #[.int .i64 a0_0, .int .i64 a0_1, .string a0_2, .slice A0_3 l0_3.length c0_3]) (t := 37) ?hr ?_; (case hd => rfl); (case hg => rfl); (case hr => first | (go_simp; done) | (go_simp; rfl)); intro gb172 hg w4 hbox hb; have n0_ := Aside0.mk (below_step (by repeat (first | (with_reducible first | exact HB.out | apply below_alloc | apply pw_below_drewN | apply below_drew1) | exact HB.out)) hb); have n1_ := Aside0.mk (hbox); have n2_ := Aside0.mk ((by rw [hg]; exact (below_size (by repeat (first | (with_reducible first | exact HB.out | apply below_alloc | apply pw_below_drewN | apply below_drew1) | exact HB.out))) : w.heap.size ≤ gb172)); have n3_ := Aside0.mk ((by rw [hg]; exact (below_size (by repeat (first | (with_reducible first | exact HB.out | apply below_alloc | apply pw_below_drewN | apply below_drew1) | exact HB.out))) : w.heap.size ≤ gb172)); clear HB; have HB := n0_; have BK172 := n1_; have GW172 := n2_; have GE172 := n3_; clear n0_ n1_ n2_ n3_; clear hb hbox hg) | ((with_reducible refine gate_dst (N := 3) rfl ?_); (try (refine gate_guard (by rfl) ?_; dsimp only)); refine box_event ?hg (N := 3) ?hd (cs := #[.int .i64 a1_0, .int .i64 a1_1, .string a1_2, .slice A1_3 l1_3.length c1_3]) (t := 37) ?hr ?_; (case hd => rfl); (case hg => rfl); (case hr => first | (go_simp; done) | (go_simp; rfl)); intro gb173 hg w5 hbox hb; have n0_ := Aside0.mk (blk_below (g := gb172) (o := .cells #[.int .i64 a0_0, .int .i64 a0_1, .string a0_2, .slice A0_3 l0_3.length c0_3] 37 (0, 0)) (by (with_reducible repeat (first | refine blk_drewN ?_ _ | refine blk_drew ?_ | refine blk_alloc ?_ _)); exact BK172.out) hb); have n1_ := Aside0.mk (below_step (by repeat (first | (with_reducible first | exact HB.out | apply below_alloc | apply pw_below_drewN | apply below_drew1 | refine below_set ?_ GE172.out) | exact HB.out)) hb); have n2_ := Aside0.mk (hbox); have n3_ := Aside0.mk ((by rw [hg]; exact (below_size (by repeat (first | (with_reducible first | exact HB.out | apply below_alloc | apply pw_below_drewN | apply below_drew1 | refine below_set ?_ GE172.out) | exact HB.out))) : w.heap.size ≤ gb173)); have n4_ := Aside0.mk ((by rw [hg]; exact (below_size (by repeat (first | (with_reducible first | exact HB.out | apply below_alloc | apply pw_below_drewN | apply below_drew1 | refine below_set ?_ GE172.out) | exact HB.out))) : w.heap.size ≤ gb173)); have n5_ := Aside0.mk ((by rw [hg]; exact Nat.ne_of_lt (blk_lt (g := gb172) (o := .cells #[.int .i64 a0_0, .int .i64 a0_1, .string a0_2, .slice A0_3 l0_3.length c0_3] 37 (0, 0)) (by (with_reducible repeat (first | refine blk_drewN ?_ _ | refine blk_drew ?_ | refine blk_alloc ?_ _)); exact BK172.out)) : gb172 ≠ gb173)); have n6_ := Aside0.mk ((by rw [hg]; exact Nat.ne_of_gt (blk_lt (g := gb172) (o := .cells #[.int .i64 a0_0, .int .i64 a0_1, .string a0_2, .slice A0_3 l0_3.length c0_3] 37 (0, 0)) (by (with_reducible repeat (first | refine blk_drewN ?_ _ | refine blk_drew ?_ | refine blk_alloc ?_ _)); exact BK172.out)) : gb173 ≠ gb172)); clear BK172; clear HB; have BK172 := n0_; have HB := n1_; have BK173 := n2_; have GW173 := n3_; have GE173 := n4_; have NB172_173 := n5_; have NB173_172 := n6_; clear n0_ n1_ n2_ n3_ n4_ n5_ n6_; clear hb hbox hg)))
  (try simp only [Act.put, List.setIfInBounds_toArray, List.set_cons_zero, List.set_cons_succ])
  go_cut [5] (fun v5 wc => ∃ (kq : Nat) (x5_2 : Bool), v5 = .bool x5_2 ∧ Aside0 (switchyardref06_Same.j0 kq x5_2 a0_0 a0_1 a0_2 l0_3 a1_0 a1_1 a1_2 l1_3 = some r) ∧ Aside0 (kq ≤ k) ∧ Aside0 (wc.heap[gb172]? = some (.cells #[.int .i64 a0_0, .int .i64 a0_1, .string a0_2, (.slice A0_3 l0_3.length c0_3)] 37 (0, 0))) ∧ Aside0 (wc.heap[gb173]? = some (.cells #[.int .i64 a1_0, .int .i64 a1_1, .string a1_2, (.slice A1_3 l1_3.length c1_3)] 37 (0, 0))) ∧ Aside0 (Below w.heap.size w wc))
  case first =>
    have H := HC3.out
    clear HC3
    by_cases c6 : a0_0 = a1_0
    · rw [if_pos c6] at H
      have c6b0 : (a0_0 == a1_0) = true := beq_iff_eq.mpr c6
      have c6b1 : (a0_0 != a1_0) = false := bne_eq_false_iff_eq.mpr c6
      clear c6
      (first | rw [c6b0] | (simp only [i64_w, i32_w]; rw [c6b0]) | skip)
      by_cases c7 : a0_1 = a1_1
      · rw [if_pos c7] at H
        have c7b0 : (a0_1 == a1_1) = true := beq_iff_eq.mpr c7
        have c7b1 : (a0_1 != a1_1) = false := bne_eq_false_iff_eq.mpr c7
        clear c7
        by_cases c8 : a0_2.toList = a1_2.toList
        · rw [if_pos c8] at H
          have c8b0 : (a0_2.toList == a1_2.toList) = true := beq_iff_eq.mpr c8
          have c8b1 : (a0_2.toList != a1_2.toList) = false := bne_eq_false_iff_eq.mpr c8
          clear c8
          have H' := Aside0.mk H
          clear H
          have hnb9 := NB172_173.out
          have hnc9 := NB173_172.out
          have hcz10_0 : w5.cell? ⟨gb172, 0, none⟩ = some (.int .i64 a0_0) := (blk_cell BK172.out 0).trans rfl
          have hcz10_1 : w5.cell? ⟨gb172, 1, none⟩ = some (.int .i64 a0_1) := (blk_cell BK172.out 1).trans rfl
          have hcz10_2 : w5.cell? ⟨gb172, 2, none⟩ = some (.string a0_2) := (blk_cell BK172.out 2).trans rfl
          have hcz10_3 : w5.cell? ⟨gb172, 3, none⟩ = some (.slice A0_3 l0_3.length c0_3) := (blk_cell BK172.out 3).trans rfl
          have hfz10_0 := blk_frozen BK172.out 0
          have hfz10_1 := blk_frozen BK172.out 1
          have hfz10_2 := blk_frozen BK172.out 2
          have hfz10_3 := blk_frozen BK172.out 3
          have hcz11_0 : w5.cell? ⟨gb173, 0, none⟩ = some (.int .i64 a1_0) := (blk_cell BK173.out 0).trans rfl
          have hcz11_1 : w5.cell? ⟨gb173, 1, none⟩ = some (.int .i64 a1_1) := (blk_cell BK173.out 1).trans rfl
          have hcz11_2 : w5.cell? ⟨gb173, 2, none⟩ = some (.string a1_2) := (blk_cell BK173.out 2).trans rfl
          have hcz11_3 : w5.cell? ⟨gb173, 3, none⟩ = some (.slice A1_3 l1_3.length c1_3) := (blk_cell BK173.out 3).trans rfl
          have hfz11_0 := blk_frozen BK173.out 0
          have hfz11_1 := blk_frozen BK173.out 1
          have hfz11_2 := blk_frozen BK173.out 2
          have hfz11_3 := blk_frozen BK173.out 3
          go_wp2
          repeat (go_quiet (fail); try go_wp2)
          go_meet
          case rel => exact ⟨_, (((l0_3.length : Int) == (l1_3.length : Int))), (by first | rfl | (simp; done) | (simp [*]; done)), H', ⟨by first | omega | exact Nat.le_refl _⟩, ⟨by (with_reducible repeat (first | refine blk_drewN ?_ _ | refine blk_drew ?_ | refine blk_alloc ?_ _)); exact BK172.out⟩, ⟨by (with_reducible repeat (first | refine blk_drewN ?_ _ | refine blk_drew ?_ | refine blk_alloc ?_ _)); exact BK173.out⟩, ⟨by repeat (first | (with_reducible first | exact HB.out | apply below_alloc | apply pw_below_drewN | apply below_drew1 | refine below_set ?_ GE172.out | refine below_set ?_ GE173.out) | exact HB.out)⟩⟩
        · rw [if_neg c8] at H
          have c8b0 : (a0_2.toList == a1_2.toList) = false := beq_eq_false_iff_ne.mpr c8
          have c8b1 : (a0_2.toList != a1_2.toList) = true := bne_iff_ne.mpr c8
          have H' := Aside0.mk H
          clear H
          have hnb12 := NB172_173.out
          have hnc12 := NB173_172.out
          have hcz13_0 : w5.cell? ⟨gb172, 0, none⟩ = some (.int .i64 a0_0) := (blk_cell BK172.out 0).trans rfl
          have hcz13_1 : w5.cell? ⟨gb172, 1, none⟩ = some (.int .i64 a0_1) := (blk_cell BK172.out 1).trans rfl
          have hcz13_2 : w5.cell? ⟨gb172, 2, none⟩ = some (.string a0_2) := (blk_cell BK172.out 2).trans rfl
          have hcz13_3 : w5.cell? ⟨gb172, 3, none⟩ = some (.slice A0_3 l0_3.length c0_3) := (blk_cell BK172.out 3).trans rfl
          have hfz13_0 := blk_frozen BK172.out 0
          have hfz13_1 := blk_frozen BK172.out 1
          have hfz13_2 := blk_frozen BK172.out 2
          have hfz13_3 := blk_frozen BK172.out 3
          have hcz14_0 : w5.cell? ⟨gb173, 0, none⟩ = some (.int .i64 a1_0) := (blk_cell BK173.out 0).trans rfl
          have hcz14_1 : w5.cell? ⟨gb173, 1, none⟩ = some (.int .i64 a1_1) := (blk_cell BK173.out 1).trans rfl
          have hcz14_2 : w5.cell? ⟨gb173, 2, none⟩ = some (.string a1_2) := (blk_cell BK173.out 2).trans rfl
          have hcz14_3 : w5.cell? ⟨gb173, 3, none⟩ = some (.slice A1_3 l1_3.length c1_3) := (blk_cell BK173.out 3).trans rfl
          have hfz14_0 := blk_frozen BK173.out 0
          have hfz14_1 := blk_frozen BK173.out 1
          have hfz14_2 := blk_frozen BK173.out 2
          have hfz14_3 := blk_frozen BK173.out 3
          go_wp2
          repeat (go_quiet (fail); try go_wp2)
          go_meet
          case rel => exact ⟨_, (false), (by first | rfl | (simp; done) | (simp [*]; done)), H', ⟨by first | omega | exact Nat.le_refl _⟩, ⟨by (with_reducible repeat (first | refine blk_drewN ?_ _ | refine blk_drew ?_ | refine blk_alloc ?_ _)); exact BK172.out⟩, ⟨by (with_reducible repeat (first | refine blk_drewN ?_ _ | refine blk_drew ?_ | refine blk_alloc ?_ _)); exact BK173.out⟩, ⟨by repeat (first | (with_reducible first | exact HB.out | apply below_alloc | apply pw_below_drewN | apply below_drew1 | refine below_set ?_ GE172.out | refine below_set ?_ GE173.out) | exact HB.out)⟩⟩
      · rw [if_neg c7] at H
        have c7b0 : (a0_1 == a1_1) = false := beq_eq_false_iff_ne.mpr c7
        have c7b1 : (a0_1 != a1_1) = true := bne_iff_ne.mpr c7
        have H' := Aside0.mk H
        clear H
        have hnb15 := NB172_173.out
        have hnc15 := NB173_172.out
        have hcz16_0 : w5.cell? ⟨gb172, 0, none⟩ = some (.int .i64 a0_0) := (blk_cell BK172.out 0).trans rfl
        have hcz16_1 : w5.cell? ⟨gb172, 1, none⟩ = some (.int .i64 a0_1) := (blk_cell BK172.out 1).trans rfl
        have hcz16_2 : w5.cell? ⟨gb172, 2, none⟩ = some (.string a0_2) := (blk_cell BK172.out 2).trans rfl
        have hcz16_3 : w5.cell? ⟨gb172, 3, none⟩ = some (.slice A0_3 l0_3.length c0_3) := (blk_cell BK172.out 3).trans rfl
        have hfz16_0 := blk_frozen BK172.out 0
        have hfz16_1 := blk_frozen BK172.out 1
        have hfz16_2 := blk_frozen BK172.out 2
        have hfz16_3 := blk_frozen BK172.out 3
        have hcz17_0 : w5.cell? ⟨gb173, 0, none⟩ = some (.int .i64 a1_0) := (blk_cell BK173.out 0).trans rfl
        have hcz17_1 : w5.cell? ⟨gb173, 1, none⟩ = some (.int .i64 a1_1) := (blk_cell BK173.out 1).trans rfl
        have hcz17_2 : w5.cell? ⟨gb173, 2, none⟩ = some (.string a1_2) := (blk_cell BK173.out 2).trans rfl
        have hcz17_3 : w5.cell? ⟨gb173, 3, none⟩ = some (.slice A1_3 l1_3.length c1_3) := (blk_cell BK173.out 3).trans rfl
        have hfz17_0 := blk_frozen BK173.out 0
        have hfz17_1 := blk_frozen BK173.out 1
        have hfz17_2 := blk_frozen BK173.out 2
        have hfz17_3 := blk_frozen BK173.out 3
        go_wp2
        repeat (go_quiet (fail); try go_wp2)
        go_meet
        case rel => exact ⟨_, (false), (by first | rfl | (simp; done) | (simp [*]; done)), H', ⟨by first | omega | exact Nat.le_refl _⟩, ⟨by (with_reducible repeat (first | refine blk_drewN ?_ _ | refine blk_drew ?_ | refine blk_alloc ?_ _)); exact BK172.out⟩, ⟨by (with_reducible repeat (first | refine blk_drewN ?_ _ | refine blk_drew ?_ | refine blk_alloc ?_ _)); exact BK173.out⟩, ⟨by repeat (first | (with_reducible first | exact HB.out | apply below_alloc | apply pw_below_drewN | apply below_drew1 | refine below_set ?_ GE172.out | refine below_set ?_ GE173.out) | exact HB.out)⟩⟩
    · rw [if_neg c6] at H
      have c6b0 : (a0_0 == a1_0) = false := beq_eq_false_iff_ne.mpr c6
      have c6b1 : (a0_0 != a1_0) = true := bne_iff_ne.mpr c6
      (first | rw [c6b0] | (simp only [i64_w, i32_w]; rw [c6b0]) | skip)
      have H' := Aside0.mk H
      clear H
      have hnb18 := NB172_173.out
      have hnc18 := NB173_172.out
      have hcz19_0 : w5.cell? ⟨gb172, 0, none⟩ = some (.int .i64 a0_0) := (blk_cell BK172.out 0).trans rfl
      have hcz19_1 : w5.cell? ⟨gb172, 1, none⟩ = some (.int .i64 a0_1) := (blk_cell BK172.out 1).trans rfl
      have hcz19_2 : w5.cell? ⟨gb172, 2, none⟩ = some (.string a0_2) := (blk_cell BK172.out 2).trans rfl
      have hcz19_3 : w5.cell? ⟨gb172, 3, none⟩ = some (.slice A0_3 l0_3.length c0_3) := (blk_cell BK172.out 3).trans rfl
      have hfz19_0 := blk_frozen BK172.out 0
      have hfz19_1 := blk_frozen BK172.out 1
      have hfz19_2 := blk_frozen BK172.out 2
      have hfz19_3 := blk_frozen BK172.out 3
      have hcz20_0 : w5.cell? ⟨gb173, 0, none⟩ = some (.int .i64 a1_0) := (blk_cell BK173.out 0).trans rfl
      have hcz20_1 : w5.cell? ⟨gb173, 1, none⟩ = some (.int .i64 a1_1) := (blk_cell BK173.out 1).trans rfl
      have hcz20_2 : w5.cell? ⟨gb173, 2, none⟩ = some (.string a1_2) := (blk_cell BK173.out 2).trans rfl
      have hcz20_3 : w5.cell? ⟨gb173, 3, none⟩ = some (.slice A1_3 l1_3.length c1_3) := (blk_cell BK173.out 3).trans rfl
      have hfz20_0 := blk_frozen BK173.out 0
      have hfz20_1 := blk_frozen BK173.out 1
      have hfz20_2 := blk_frozen BK173.out 2
      have hfz20_3 := blk_frozen BK173.out 3
      go_wp2
      repeat (go_quiet (fail); try go_wp2)
      go_meet
      case rel => exact ⟨_, (false), (by first | rfl | (simp; done) | (simp [*]; done)), H', ⟨by first | omega | exact Nat.le_refl _⟩, ⟨by (with_reducible repeat (first | refine blk_drewN ?_ _ | refine blk_drew ?_ | refine blk_alloc ?_ _)); exact BK172.out⟩, ⟨by (with_reducible repeat (first | refine blk_drewN ?_ _ | refine blk_drew ?_ | refine blk_alloc ?_ _)); exact BK173.out⟩, ⟨by repeat (first | (with_reducible first | exact HB.out | apply below_alloc | apply pw_below_drewN | apply below_drew1 | refine below_set ?_ GE172.out | refine below_set ?_ GE173.out) | exact HB.out)⟩⟩
  case rest =>
    clear HC3
    try clear c1
    try clear p2
    try clear c3
    try clear c6
    try clear c6b0
    try clear c6b1
    try clear c7
    try clear c7b0
    try clear c7b1
    try clear c8
    try clear c8b0
    try clear c8b1
    try clear c9
    try clear c12
    try clear c15
    try clear c18
    try clear hcz10_0
    try clear hcz10_1
    try clear hcz10_2
    try clear hcz10_3
    try clear hcz11_0
    try clear hcz11_1
    try clear hcz11_2
    try clear hcz11_3
    try clear hcz13_0
    try clear hcz13_1
    try clear hcz13_2
    try clear hcz13_3
    try clear hcz14_0
    try clear hcz14_1
    try clear hcz14_2
    try clear hcz14_3
    try clear hcz16_0
    try clear hcz16_1
    try clear hcz16_2
    try clear hcz16_3
    try clear hcz17_0
    try clear hcz17_1
    try clear hcz17_2
    try clear hcz17_3
    try clear hcz19_0
    try clear hcz19_1
    try clear hcz19_2
    try clear hcz19_3
    try clear hcz20_0
    try clear hcz20_1
    try clear hcz20_2
    try clear hcz20_3
    try clear hfz10_0
    try clear hfz10_1
    try clear hfz10_2
    try clear hfz10_3
    try clear hfz11_0
    try clear hfz11_1
    try clear hfz11_2
    try clear hfz11_3
    try clear hfz13_0
    try clear hfz13_1
    try clear hfz13_2
    try clear hfz13_3
    try clear hfz14_0
    try clear hfz14_1
    try clear hfz14_2
    try clear hfz14_3
    try clear hfz16_0
    try clear hfz16_1
    try clear hfz16_2
    try clear hfz16_3
    try clear hfz17_0
    try clear hfz17_1
    try clear hfz17_2
    try clear hfz17_3
    try clear hfz19_0
    try clear hfz19_1
    try clear hfz19_2
    try clear hfz19_3
    try clear hfz20_0
    try clear hfz20_1
    try clear hfz20_2
    try clear hfz20_3
    obtain ⟨kq, x5_2, rfl, HA, HJ2, BK172, BK173, HB⟩ := hcut
    cases kq with
    | zero => exact absurd HA.out (by simp [switchyardref06_Same.j0])
    | succ kj2 =>
      have H := HA.out
      clear HA
      simp only [switchyardref06_Same.j0] at H
      have H' := Aside0.mk H
      clear H
      go_wp2
      repeat (go_quiet (fail); try go_wp2)
      go_loopg [5, 6] kj2 (fun kq v5 v6 w' => ∃ (x5_2 : Bool) (x6_2 : Int), v5 = .bool x5_2 ∧ v6 = .int .i64 x6_2 ∧ Aside0 (switchyardref06_Same.l0 kq x5_2 x6_2 a0_0 a0_1 a0_2 l0_3 a1_0 a1_1 a1_2 l1_3 = some r) ∧ Aside0 (kq ≤ kj2) ∧ Aside0 (w'.heap[gb172]? = some (.cells #[.int .i64 a0_0, .int .i64 a0_1, .string a0_2, (.slice A0_3 l0_3.length c0_3)] 37 (0, 0))) ∧ Aside0 (w'.heap[gb173]? = some (.cells #[.int .i64 a1_0, .int .i64 a1_1, .string a1_2, (.slice A1_3 l1_3.length c1_3)] 37 (0, 0))) ∧ Aside0 (Below w.heap.size w w'))
      case atStart => exact ⟨(x5_2), (0), (by first | rfl | (simp; done) | (simp [*]; done)), (by first | rfl | (simp; done) | (simp [*]; done)), H', ⟨Nat.le_refl _⟩, ⟨by (with_reducible repeat (first | refine blk_drewN ?_ _ | refine blk_drew ?_ | refine blk_alloc ?_ _)); exact BK172.out⟩, ⟨by (with_reducible repeat (first | refine blk_drewN ?_ _ | refine blk_drew ?_ | refine blk_alloc ?_ _)); exact BK173.out⟩, ⟨by repeat (first | (with_reducible first | exact HB.out | apply below_alloc | apply pw_below_drewN | apply below_drew1 | refine below_set ?_ GE172.out | refine below_set ?_ GE173.out) | exact HB.out)⟩⟩
      case round =>
        clear H'
        try clear c1
        try clear p2
        try clear c3
        try clear c6
        try clear c6b0
        try clear c6b1
        try clear c7
        try clear c7b0
        try clear c7b1
        try clear c8
        try clear c8b0
        try clear c8b1
        try clear c9
        try clear c12
        try clear c15
        try clear c18
        try clear hcz10_0
        try clear hcz10_1
        try clear hcz10_2
        try clear hcz10_3
        try clear hcz11_0
        try clear hcz11_1
        try clear hcz11_2
        try clear hcz11_3
        try clear hcz13_0
        try clear hcz13_1
        try clear hcz13_2
        try clear hcz13_3
        try clear hcz14_0
        try clear hcz14_1
        try clear hcz14_2
        try clear hcz14_3
        try clear hcz16_0
        try clear hcz16_1
        try clear hcz16_2
        try clear hcz16_3
        try clear hcz17_0
        try clear hcz17_1
        try clear hcz17_2
        try clear hcz17_3
        try clear hcz19_0
        try clear hcz19_1
        try clear hcz19_2
        try clear hcz19_3
        try clear hcz20_0
        try clear hcz20_1
        try clear hcz20_2
        try clear hcz20_3
        try clear hfz10_0
        try clear hfz10_1
        try clear hfz10_2
        try clear hfz10_3
        try clear hfz11_0
        try clear hfz11_1
        try clear hfz11_2
        try clear hfz11_3
        try clear hfz13_0
        try clear hfz13_1
        try clear hfz13_2
        try clear hfz13_3
        try clear hfz14_0
        try clear hfz14_1
        try clear hfz14_2
        try clear hfz14_3
        try clear hfz16_0
        try clear hfz16_1
        try clear hfz16_2
        try clear hfz16_3
        try clear hfz17_0
        try clear hfz17_1
        try clear hfz17_2
        try clear hfz17_3
        try clear hfz19_0
        try clear hfz19_1
        try clear hfz19_2
        try clear hfz19_3
        try clear hfz20_0
        try clear hfz20_1
        try clear hfz20_2
        try clear hfz20_3
        try clear p2
        obtain ⟨x5_2, x6_2, rfl, rfl, HA, HK2, BK172, BK173, HB⟩ := hrel
        cases gk with
        | zero => exact absurd HA.out (by simp [switchyardref06_Same.l0])
        | succ k2 =>
          have H := HA.out
          clear HA
          simp only [switchyardref06_Same.l0] at H
          by_cases c21 : x5_2 = true
          · subst c21
            have H1 : (if x6_2 < (l0_3.length : Int) then (if 0 ≤ x6_2 then (if x6_2 < (l1_3.length : Int) then (switchyardref06_Same.l0 k2 ((rd l0_3 x6_2) == (rd l1_3 x6_2)) (wrap64 (x6_2 + 1)) a0_0 a0_1 a0_2 l0_3 a1_0 a1_1 a1_2 l1_3) else (none)) else (none)) else (some true)) = some r := by rw [if_pos rfl] at H; exact H
            clear H
            have H := H1
            clear H1
            by_cases c22 : x6_2 < (l0_3.length : Int)
            · rw [if_pos c22] at H
              have c22b0 : decide (x6_2 < (l0_3.length : Int)) = true := decide_eq_true c22
              clear c22
              by_cases c23 : 0 ≤ x6_2
              · rw [if_pos c23] at H
                have c23b0 : decide (0 ≤ x6_2) = true := decide_eq_true c23
                clear c23
                by_cases c24 : x6_2 < (l1_3.length : Int)
                · rw [if_pos c24] at H
                  have c24b0 : decide (x6_2 < (l1_3.length : Int)) = true := decide_eq_true c24
                  clear c24
                  have H' := Aside0.mk H
                  clear H
                  have hnb25 := NB172_173.out
                  have hnc25 := NB173_172.out
                  have hcz26_0 : wr.cell? ⟨gb172, 0, none⟩ = some (.int .i64 a0_0) := (blk_cell BK172.out 0).trans rfl
                  have hcz26_1 : wr.cell? ⟨gb172, 1, none⟩ = some (.int .i64 a0_1) := (blk_cell BK172.out 1).trans rfl
                  have hcz26_2 : wr.cell? ⟨gb172, 2, none⟩ = some (.string a0_2) := (blk_cell BK172.out 2).trans rfl
                  have hcz26_3 : wr.cell? ⟨gb172, 3, none⟩ = some (.slice A0_3 l0_3.length c0_3) := (blk_cell BK172.out 3).trans rfl
                  have hfz26_0 := blk_frozen BK172.out 0
                  have hfz26_1 := blk_frozen BK172.out 1
                  have hfz26_2 := blk_frozen BK172.out 2
                  have hfz26_3 := blk_frozen BK172.out 3
                  have p174 : 0 ≤ (x6_2 : Int) := of_decide_eq_true (by first | (with_reducible assumption) | assumption)
                  have q174 : x6_2 < (l0_3.length : Int) := of_decide_eq_true (by first | (with_reducible assumption) | assumption)
                  obtain ⟨ad174, e174, hx174_0⟩ := Kd.at_int HR0_3.out x6_2 p174 q174
                  cases e174
                  replace hx174_0 := (HB.out.cell (World.block_lt_of_cell? w _ hx174_0)).trans hx174_0
                  replace p174 := eq_true p174
                  replace q174 := eq_true q174
                  have hcz27_0 : wr.cell? ⟨gb173, 0, none⟩ = some (.int .i64 a1_0) := (blk_cell BK173.out 0).trans rfl
                  have hcz27_1 : wr.cell? ⟨gb173, 1, none⟩ = some (.int .i64 a1_1) := (blk_cell BK173.out 1).trans rfl
                  have hcz27_2 : wr.cell? ⟨gb173, 2, none⟩ = some (.string a1_2) := (blk_cell BK173.out 2).trans rfl
                  have hcz27_3 : wr.cell? ⟨gb173, 3, none⟩ = some (.slice A1_3 l1_3.length c1_3) := (blk_cell BK173.out 3).trans rfl
                  have hfz27_0 := blk_frozen BK173.out 0
                  have hfz27_1 := blk_frozen BK173.out 1
                  have hfz27_2 := blk_frozen BK173.out 2
                  have hfz27_3 := blk_frozen BK173.out 3
                  have p175 : 0 ≤ (x6_2 : Int) := of_decide_eq_true (by first | (with_reducible assumption) | assumption)
                  have q175 : x6_2 < (l1_3.length : Int) := of_decide_eq_true (by first | (with_reducible assumption) | assumption)
                  obtain ⟨ad175, e175, hx175_0⟩ := Kd.at_int HR1_3.out x6_2 p175 q175
                  cases e175
                  replace hx175_0 := (HB.out.cell (World.block_lt_of_cell? w _ hx175_0)).trans hx175_0
                  replace p175 := eq_true p175
                  replace q175 := eq_true q175
                  go_wp2
                  repeat (go_quiet (fail); try go_wp2)
                  go_roundg k2
                  case measure => have := HJ2.out; have := HK2.out; omega
                  case rel => exact ⟨(((rd l0_3 x6_2) == (rd l1_3 x6_2))), (wrap64 (x6_2 + 1)), (by first | rfl | (simp; done) | (simp [*]; done)), (by first | rfl | (simp; done) | (simp [*]; done)), H', ⟨by have := HJ2.out; have := HK2.out; omega⟩, ⟨by (with_reducible repeat (first | refine blk_drewN ?_ _ | refine blk_drew ?_ | refine blk_alloc ?_ _)); exact BK172.out⟩, ⟨by (with_reducible repeat (first | refine blk_drewN ?_ _ | refine blk_drew ?_ | refine blk_alloc ?_ _)); exact BK173.out⟩, ⟨by repeat (first | (with_reducible first | exact HB.out | apply below_alloc | apply pw_below_drewN | apply below_drew1 | refine below_set ?_ GE172.out | refine below_set ?_ GE173.out) | exact HB.out)⟩⟩
                · rw [if_neg c24] at H
                  exact absurd H (by simp)
              · rw [if_neg c23] at H
                exact absurd H (by simp)
            · rw [if_neg c22] at H
              have c22b0 : decide (x6_2 < (l0_3.length : Int)) = false := decide_eq_false c22
              clear c22
              obtain rfl := Option.some.inj H
              have hnb28 := NB172_173.out
              have hnc28 := NB173_172.out
              have hcz29_0 : wr.cell? ⟨gb172, 0, none⟩ = some (.int .i64 a0_0) := (blk_cell BK172.out 0).trans rfl
              have hcz29_1 : wr.cell? ⟨gb172, 1, none⟩ = some (.int .i64 a0_1) := (blk_cell BK172.out 1).trans rfl
              have hcz29_2 : wr.cell? ⟨gb172, 2, none⟩ = some (.string a0_2) := (blk_cell BK172.out 2).trans rfl
              have hcz29_3 : wr.cell? ⟨gb172, 3, none⟩ = some (.slice A0_3 l0_3.length c0_3) := (blk_cell BK172.out 3).trans rfl
              have hfz29_0 := blk_frozen BK172.out 0
              have hfz29_1 := blk_frozen BK172.out 1
              have hfz29_2 := blk_frozen BK172.out 2
              have hfz29_3 := blk_frozen BK172.out 3
              go_wp2
              repeat (go_quiet (fail); try go_wp2)
              go_ret
              exact ⟨by first | rfl | (simp [errW_none, errW_some] <;> rfl) | (simp [*, errW_none, errW_some] <;> rfl), by repeat (first | (with_reducible first | exact HB.out | apply below_alloc | apply pw_below_drewN | apply below_drew1 | refine below_set ?_ GE172.out | refine below_set ?_ GE173.out) | exact HB.out)⟩
          · replace c21 := Bool.eq_false_iff.mpr c21
            subst c21
            have H1 : (some false) = some r := by rw [if_neg (show ¬ (false = true) by decide)] at H; exact H
            clear H
            have H := H1
            clear H1
            obtain rfl := Option.some.inj H
            go_wp2
            repeat (go_quiet (fail); try go_wp2)
            go_ret
            exact ⟨by first | rfl | (simp [errW_none, errW_some] <;> rfl) | (simp [*, errW_none, errW_some] <;> rfl), by repeat (first | (with_reducible first | exact HB.out | apply below_alloc | apply pw_below_drewN | apply below_drew1 | refine below_set ?_ GE172.out | refine below_set ?_ GE173.out) | exact HB.out)⟩
end Go.Proofs.YtknbebjphjpgpaaDoor.XD
namespace Go.Proofs.YtknbebjphjpgpaaDoor.XD
open Go.RowKit Go.Proofs.YtknbebjphjpgpaaDoorW.PrintWords Go.Proofs.YtknbebjphjpgpaaDoorW.PrintLast Go.Proofs.YtknbebjphjpgpaaDoorW.PrintMore
attribute [local go_sem] max2_int min2_int max_two min_two max_three min_three max_four min_four   -- for this text's walks alone
set_option linter.unusedVariables false
set_option linter.unusedSimpArgs false
def switchyardref06_SameAll.l0 : Nat → List (S37) → List (S37) → Int → Int → Option (Bool)
  | 0, _, _, _, _ => none
  | k + 1, x0, x1, x12, x13 => if x13 < x12 then (if 0 ≤ x13 then (if x13 < (x0.length : Int) then (if x13 < (x1.length : Int) then ((switchyardref06_Same.f k ((rd_T37 x0 x13).f0) ((rd_T37 x0 x13).f1) ((rd_T37 x0 x13).f2) ((rd_T37 x0 x13).f3) ((rd_T37 x1 x13).f0) ((rd_T37 x1 x13).f1) ((rd_T37 x1 x13).f2) ((rd_T37 x1 x13).f3)).bind fun t178 => (if t178 = true then (switchyardref06_SameAll.l0 k x0 x1 x12 (wrap64 (x13 + 1))) else (some false))) else (none)) else (none)) else (none)) else (some true)
def switchyardref06_SameAll.f (k : Nat) (l0 : List (S37)) (l1 : List (S37)) : Option (Bool) := if (l0.length : Int) = (l1.length : Int) then (switchyardref06_SameAll.l0 k l0 l1 (l0.length : Int) 0) else (some false)
def switchyardref06_SameAll.T6 : Bool × List (List Nat × List Nat) := (true, [([], []), ([], []), ([0, 1], [0, 1]), ([2], [2]), ([], []), ([], []), ([4, 5], [4, 5]), ([6], [6]), ([3, 7], [3, 7]), ([8], [8])])
def switchyardref06_SameAll.B6 : List Nat := [0, 0, 3, 7, 0, 0, 48, 112, 255, 511]
theorem switchyardref06_SameAll.tab6 : rtab .any (opsOf Tryd.f29 6) = switchyardref06_SameAll.T6 := by kernel_rfl
theorem switchyardref06_SameAll.bits6 : waitsOk switchyardref06_SameAll.T6.2 switchyardref06_SameAll.B6 = true := by kernel_rfl
set_option maxHeartbeats 600000 in
set_option maxRecDepth 100000 in
theorem switchyardref06_SameAll.calls (k : Nat) (A0 : Option Addr) (c0 : Nat) (l0 : List (S37)) (A1 : Option Addr) (c1 : Nat) (l1 : List (S37)) (r : Bool) (w : World) (hr0 : Kd.C k37 w A0 l0.length l0) (hc0 : l0.length ≤ c0) (hr1 : Kd.C k37 w A1 l1.length l1) (hc1 : l1.length ≤ c1) (h : switchyardref06_SameAll.f k l0 l1 = some r) :
    Calls Tryd.prog 29 #[.slice A0 l0.length c0, .slice A1 l1.length c1] w fun e w' => e = .returned (.bool r) ∧ Below w.heap.size w w' := by
  have hu37 := Tryd.underlying37
  have HR0 := Aside0.mk hr0
  have HC0 := Aside0.mk hc0
  clear hr0 hc0
  have HR1 := Aside0.mk hr1
  have HC1 := Aside0.mk hc1
  clear hr1 hc1
  have HB := Aside0.mk (Below.refl w.heap.size w)
  have H : (if (l0.length : Int) = (l1.length : Int) then (switchyardref06_SameAll.l0 k l0 l1 (l0.length : Int) 0) else (some false)) = some r := h
  clear h
  by_cases c3 : (l0.length : Int) = (l1.length : Int)
  · rw [if_pos c3] at H
    have c3b0 : ((l0.length : Int) == (l1.length : Int)) = true := beq_iff_eq.mpr c3
    have c3b1 : ((l0.length : Int) != (l1.length : Int)) = false := bne_eq_false_iff_eq.mpr c3
    have c3b2 : (l0.length == l1.length) = true := by first | simpa using c3 | (simp at c3 ⊢; omega)
    clear c3
    have H' := Aside0.mk H
    clear H
    go_enter Tryd.func29, Tryd.ntmps29
    go_wp2
    go_loopg [13] k (fun kq v13 w' => ∃ (x13_1 : Int), v13 = .int .i64 x13_1 ∧ Aside0 (switchyardref06_SameAll.l0 kq l0 l1 (l0.length : Int) x13_1 = some r) ∧ Aside0 (kq ≤ k) ∧ Aside0 (Below w.heap.size w w'))
    case atStart => exact ⟨(0), (by first | rfl | (simp; done) | (simp [*]; done)), H', ⟨Nat.le_refl _⟩, ⟨by repeat (first | (with_reducible first | exact HB.out | apply below_alloc | apply pw_below_drewN | apply below_drew1) | exact HB.out)⟩⟩
    case round =>
      clear H'
      try clear c1
      try clear c2
      try clear p2
      try clear c3
      try clear c3b0
      try clear c3b1
      try clear c3b2
      obtain ⟨x13_1, rfl, HA, HK1, HB⟩ := hrel
      cases gk with
      | zero => exact absurd HA.out (by simp [switchyardref06_SameAll.l0])
      | succ k1 =>
        have H := HA.out
        clear HA
        simp only [switchyardref06_SameAll.l0] at H
        by_cases c4 : x13_1 < (l0.length : Int)
        · rw [if_pos c4] at H
          have c4b0 : decide (x13_1 < (l0.length : Int)) = true := decide_eq_true c4
          clear c4
          by_cases c5 : 0 ≤ x13_1
          · rw [if_pos c5] at H
            have c5b0 : decide (0 ≤ x13_1) = true := decide_eq_true c5
            clear c5
            by_cases c6 : x13_1 < (l0.length : Int)
            · rw [if_pos c6] at H
              have c6b0 : decide (x13_1 < (l0.length : Int)) = true := decide_eq_true c6
              clear c6
              by_cases c7 : x13_1 < (l1.length : Int)
              · rw [if_pos c7] at H
                have c7b0 : decide (x13_1 < (l1.length : Int)) = true := decide_eq_true c7
                clear c7
                replace H := Option.bind_eq_some_iff.mp H
                obtain ⟨t178, A80, H⟩ := H
                replace H : (if t178 = true then (switchyardref06_SameAll.l0 k1 l0 l1 (l0.length : Int) (wrap64 (x13_1 + 1))) else (some false)) = some r := H
                have A8 := Aside0.mk A80
                clear A80
                by_cases c9 : t178 = true
                · subst c9
                  have H1 : (switchyardref06_SameAll.l0 k1 l0 l1 (l0.length : Int) (wrap64 (x13_1 + 1))) = some r := by rw [if_pos rfl] at H; exact H
                  clear H
                  have H := H1
                  clear H1
                  have H' := Aside0.mk H
                  clear H
                  try go_wp2
                  have n0_ := Aside0.mk (below_drew1 HB.out)
                  clear HB
                  have HB := n0_
                  clear n0_
                  have p176 : 0 ≤ (x13_1 : Int) := of_decide_eq_true (by first | (with_reducible assumption) | assumption)
                  have q176 : x13_1 < (l0.length : Int) := of_decide_eq_true (by first | (with_reducible assumption) | assumption)
                  obtain ⟨ad176, A176_3, c176_3, e176, hx176_0, hx176_1, hx176_2, hx176_3, hl176_3, hi176_3⟩ := at_T37 HR0.out x13_1 p176 q176
                  have hw176_3 := hx176_3
                  have hw176_2 := hx176_2
                  have hw176_1 := hx176_1
                  have hw176_0 := hx176_0
                  cases e176
                  replace hx176_0 := (HB.out.cell (World.block_lt_of_cell? w _ hx176_0)).trans hx176_0
                  replace hx176_1 := (HB.out.cell (World.block_lt_of_cell? w _ hx176_1)).trans hx176_1
                  replace hx176_2 := (HB.out.cell (World.block_lt_of_cell? w _ hx176_2)).trans hx176_2
                  replace hx176_3 := (HB.out.cell (World.block_lt_of_cell? w _ hx176_3)).trans hx176_3
                  have HR176_3 := Aside0.mk hi176_3
                  have HC176_3 := Aside0.mk hl176_3
                  clear hi176_3 hl176_3
                  replace p176 := eq_true p176
                  replace q176 := eq_true q176
                  have p177 : 0 ≤ (x13_1 : Int) := of_decide_eq_true (by first | (with_reducible assumption) | assumption)
                  have q177 : x13_1 < (l1.length : Int) := of_decide_eq_true (by first | (with_reducible assumption) | assumption)
                  obtain ⟨ad177, A177_3, c177_3, e177, hx177_0, hx177_1, hx177_2, hx177_3, hl177_3, hi177_3⟩ := at_T37 HR1.out x13_1 p177 q177
                  have hw177_3 := hx177_3
                  have hw177_2 := hx177_2
                  have hw177_1 := hx177_1
                  have hw177_0 := hx177_0
                  cases e177
                  replace hx177_0 := (HB.out.cell (World.block_lt_of_cell? w _ hx177_0)).trans hx177_0
                  replace hx177_1 := (HB.out.cell (World.block_lt_of_cell? w _ hx177_1)).trans hx177_1
                  replace hx177_2 := (HB.out.cell (World.block_lt_of_cell? w _ hx177_2)).trans hx177_2
                  replace hx177_3 := (HB.out.cell (World.block_lt_of_cell? w _ hx177_3)).trans hx177_3
                  have HR177_3 := Aside0.mk hi177_3
                  have HC177_3 := Aside0.mk hl177_3
                  clear hi177_3 hl177_3
                  replace p177 := eq_true p177
                  replace q177 := eq_true q177
                  refine start_ (n := 10) (S := fun w' => w'.cell? (ad176.add ((x13_1).toNat * 4)) = some (.int .i64 ((rd_T37 l0 x13_1).f0)) ∧ w'.cell? ⟨(ad176.add ((x13_1).toNat * 4)).block, (ad176.add ((x13_1).toNat * 4)).off + 1, none⟩ = some (.int .i64 ((rd_T37 l0 x13_1).f1)) ∧ w'.cell? ⟨(ad176.add ((x13_1).toNat * 4)).block, (ad176.add ((x13_1).toNat * 4)).off + 2, none⟩ = some (.string ((rd_T37 l0 x13_1).f2)) ∧ w'.cell? ⟨(ad176.add ((x13_1).toNat * 4)).block, (ad176.add ((x13_1).toNat * 4)).off + 3, none⟩ = some (.slice A176_3 ((rd_T37 l0 x13_1).f3).length c176_3) ∧ w'.cell? (ad177.add ((x13_1).toNat * 4)) = some (.int .i64 ((rd_T37 l1 x13_1).f0)) ∧ w'.cell? ⟨(ad177.add ((x13_1).toNat * 4)).block, (ad177.add ((x13_1).toNat * 4)).off + 1, none⟩ = some (.int .i64 ((rd_T37 l1 x13_1).f1)) ∧ w'.cell? ⟨(ad177.add ((x13_1).toNat * 4)).block, (ad177.add ((x13_1).toNat * 4)).off + 2, none⟩ = some (.string ((rd_T37 l1 x13_1).f2)) ∧ w'.cell? ⟨(ad177.add ((x13_1).toNat * 4)).block, (ad177.add ((x13_1).toNat * 4)).off + 3, none⟩ = some (.slice A177_3 ((rd_T37 l1 x13_1).f3).length c177_3)) (ds := []) #[false, false, false, false, false, false, false, false, false, false] (by kernel_rfl) rfl rfl ⟨((HB.out.cell (World.block_lt_of_cell? w _ hw176_0)).trans hw176_0), ((HB.out.cell (World.block_lt_of_cell? w _ hw176_1)).trans hw176_1), ((HB.out.cell (World.block_lt_of_cell? w _ hw176_2)).trans hw176_2), ((HB.out.cell (World.block_lt_of_cell? w _ hw176_3)).trans hw176_3), ((HB.out.cell (World.block_lt_of_cell? w _ hw177_0)).trans hw177_0), ((HB.out.cell (World.block_lt_of_cell? w _ hw177_1)).trans hw177_1), ((HB.out.cell (World.block_lt_of_cell? w _ hw177_2)).trans hw177_2), ((HB.out.cell (World.block_lt_of_cell? w _ hw177_3)).trans hw177_3)⟩ (fun hHeld => ?_); refine with_tabW switchyardref06_SameAll.tab6 switchyardref06_SameAll.bits6 (fun HT_ HW_ => ?_)
                  generalize wr.drew = w10 at HB HR176_3 HR177_3 hx176_0 hx176_1 hx176_2 hx176_3 hx177_0 hx177_1 hx177_2 hx177_3 hHeld ⊢
                  refine pure_ (i := 0) (N := some 16) (v := ?_) (a' := ?_) #[true, false, false, false, false, false, false, false, false, false] rfl rfl (any_of HT_.out (by kernel_rfl)) (fun _ _ _ h => h) (Or.inl ⟨by rfl, ?_⟩) ?_ ?_
                  rotate_left
                  · intro w'
                    go_simp
                    with_reducible rfl
                  rotate_left
                  · simp only [Act.put, List.setIfInBounds_toArray, List.set_cons_zero, List.set_cons_succ, i64_w, i32_w]
                    rfl
                  refine pure_ (i := 1) (N := some 17) (v := ?_) (a' := ?_) #[true, true, false, false, false, false, false, false, false, false] rfl rfl (any_of HT_.out (by kernel_rfl)) (fun _ _ _ h => h) (Or.inl ⟨by rfl, ?_⟩) ?_ ?_
                  rotate_left
                  · intro w'
                    go_simp
                    with_reducible rfl
                  rotate_left
                  · simp only [Act.put, List.setIfInBounds_toArray, List.set_cons_zero, List.set_cons_succ, i64_w, i32_w]
                    rfl
                  refine pure_ (i := 2) (N := some 18) (v := ?_) (a' := ?_) #[true, true, true, false, false, false, false, false, false, false] rfl rfl (any_of HT_.out (by kernel_rfl)) (fun _ _ _ h => h) (Or.inl ⟨by rfl, ?_⟩) ?_ ?_
                  rotate_left
                  · intro w'
                    go_simp
                    with_reducible rfl
                  rotate_left
                  · simp only [Act.put, List.setIfInBounds_toArray, List.set_cons_zero, List.set_cons_succ, i64_w, i32_w]
                    rfl
                  refine pure_ (i := 4) (N := some 20) (v := ?_) (a' := ?_) #[true, true, true, false, true, false, false, false, false, false] rfl rfl (any_of HT_.out (by kernel_rfl)) (fun _ _ _ h => h) (Or.inl ⟨by rfl, ?_⟩) ?_ ?_
                  rotate_left
                  · intro w'
                    go_simp
                    with_reducible rfl
                  rotate_left
                  · simp only [Act.put, List.setIfInBounds_toArray, List.set_cons_zero, List.set_cons_succ, i64_w, i32_w]
                    rfl
                  refine pure_ (i := 5) (N := some 21) (v := ?_) (a' := ?_) #[true, true, true, false, true, true, false, false, false, false] rfl rfl (any_of HT_.out (by kernel_rfl)) (fun _ _ _ h => h) (Or.inl ⟨by rfl, ?_⟩) ?_ ?_
                  rotate_left
                  · intro w'
                    go_simp
                    with_reducible rfl
                  rotate_left
                  · simp only [Act.put, List.setIfInBounds_toArray, List.set_cons_zero, List.set_cons_succ, i64_w, i32_w]
                    rfl
                  refine pure_ (i := 6) (N := some 22) (v := ?_) (a' := ?_) #[true, true, true, false, true, true, true, false, false, false] rfl rfl (any_of HT_.out (by kernel_rfl)) (fun _ _ _ h => h) (Or.inl ⟨by rfl, ?_⟩) ?_ ?_
                  rotate_left
                  · intro w'
                    go_simp
                    with_reducible rfl
                  rotate_left
                  · simp only [Act.put, List.setIfInBounds_toArray, List.set_cons_zero, List.set_cons_succ, i64_w, i32_w]
                    rfl
                  refine take_ (i := 3) (N := some 19) (v := ?_) (a' := ?_) #[true, true, true, true, true, true, true, false, false, false] rfl rfl (take_ofW HT_.out HW_.out (by kernel_rfl)) (fun _ _ _ h => h) (Or.inl ⟨by rfl, ?_⟩) hHeld ?_ ?_
                  rotate_left
                  · rintro w' ⟨s0, s1, s2, s3, s4, s5, s6, s7⟩
                    go_simp
                    with_reducible rfl
                  rotate_left
                  · simp only [Act.put, List.setIfInBounds_toArray, List.set_cons_zero, List.set_cons_succ, i64_w, i32_w]
                    rfl
                  refine take_ (i := 7) (N := some 23) (v := ?_) (a' := ?_) #[true, true, true, true, true, true, true, true, false, false] rfl rfl (take_ofW HT_.out HW_.out (by kernel_rfl)) (fun _ _ _ h => h) (Or.inl ⟨by rfl, ?_⟩) hHeld ?_ ?_
                  rotate_left
                  · rintro w' ⟨s0, s1, s2, s3, s4, s5, s6, s7⟩
                    go_simp
                    with_reducible rfl
                  rotate_left
                  · simp only [Act.put, List.setIfInBounds_toArray, List.set_cons_zero, List.set_cons_succ, i64_w, i32_w]
                    rfl
                  refine one_ (i := 8) (N := some 24) #[true, true, true, true, true, true, true, true, true, false] rfl rfl (one_of HT_.out (by kernel_rfl)) (by decide) (fun K hK => ?_)
                  refine goes_ Tryd.func31 (by kernel_rfl) rfl #[.agg #[.int .i64 ((rd_T37 l0 x13_1).f0), .int .i64 ((rd_T37 l0 x13_1).f1), .string ((rd_T37 l0 x13_1).f2), .slice A176_3 ((rd_T37 l0 x13_1).f3).length c176_3], .agg #[.int .i64 ((rd_T37 l1 x13_1).f0), .int .i64 ((rd_T37 l1 x13_1).f1), .string ((rd_T37 l1 x13_1).f2), .slice A177_3 ((rd_T37 l1 x13_1).f3).length c177_3]] (by rfl) rfl rfl (by (try simp only [List.map_toArray, List.map_cons, List.map_nil]); first | done | rfl | (simp only [List.length_drop, List.length_take]; rfl)) ?_
                  with_reducible refine (switchyardref06_Same.calls k1 ((rd_T37 l0 x13_1).f0) ((rd_T37 l0 x13_1).f1) ((rd_T37 l0 x13_1).f2) _ _ ((rd_T37 l0 x13_1).f3) ((rd_T37 l1 x13_1).f0) ((rd_T37 l1 x13_1).f1) ((rd_T37 l1 x13_1).f2) _ _ ((rd_T37 l1 x13_1).f3) true _ ?side1 ?side2 ?side3 ?side4 A8.out).mono ?_
                  (case side1 => repeat (first | exact (Kd.C_below HR176_3.out HB.out) | (with_reducible refine Kd.C_alloc ?_ _) | (with_reducible refine Kd.C_drewN ?_ _) | (with_reducible refine Kd.C_drew ?_)))
                  (case side2 => exact HC176_3.out)
                  (case side3 => repeat (first | exact (Kd.C_below HR177_3.out HB.out) | (with_reducible refine Kd.C_alloc ?_ _) | (with_reducible refine Kd.C_drewN ?_ _) | (with_reducible refine Kd.C_drew ?_)))
                  (case side4 => exact HC177_3.out)
                  rintro e w11 ⟨rfl, hb⟩
                  refine ⟨_, rfl, ?_⟩
                  have n0_ := Aside0.mk (below_step (by repeat (first | (with_reducible first | exact HB.out | apply below_alloc | apply pw_below_drewN | apply below_drew1) | exact HB.out)) hb)
                  clear HB
                  have HB := n0_
                  clear n0_
                  (try clear hb)
                  (try clear hb2)
                  (try clear hk)
                  (try clear hi)
                  refine hK.out _ _ ⟨((HB.out.cell (World.block_lt_of_cell? w _ hw176_0)).trans hw176_0), ((HB.out.cell (World.block_lt_of_cell? w _ hw176_1)).trans hw176_1), ((HB.out.cell (World.block_lt_of_cell? w _ hw176_2)).trans hw176_2), ((HB.out.cell (World.block_lt_of_cell? w _ hw176_3)).trans hw176_3), ((HB.out.cell (World.block_lt_of_cell? w _ hw177_0)).trans hw177_0), ((HB.out.cell (World.block_lt_of_cell? w _ hw177_1)).trans hw177_1), ((HB.out.cell (World.block_lt_of_cell? w _ hw177_2)).trans hw177_2), ((HB.out.cell (World.block_lt_of_cell? w _ hw177_3)).trans hw177_3)⟩ (fun hHeld => ?_)
                  clear hK K
                  refine norm_ (a' := ?_) ?_ ?_
                  rotate_left
                  · show Act.put _ (some 24) _ = _
                    simp only [Act.put, List.setIfInBounds_toArray, List.set_cons_zero, List.set_cons_succ, i64_w, i32_w]
                    rfl
                  refine pure_ (i := 9) (N := some 25) (v := ?_) (a' := ?_) #[true, true, true, true, true, true, true, true, true, true] rfl rfl (any_of HT_.out (by kernel_rfl)) (fun _ _ _ h => h) (Or.inl ⟨by rfl, ?_⟩) ?_ ?_
                  rotate_left
                  · intro w'
                    go_simp
                    with_reducible rfl
                  rotate_left
                  · simp only [Act.put, List.setIfInBounds_toArray, List.set_cons_zero, List.set_cons_succ, i64_w, i32_w]
                    rfl
                  refine done_ (done_of HT_.out (by kernel_rfl)) ?_
                  try go_wp2
                  go_roundg k1
                  case measure => have := HK1.out; omega
                  case rel => exact ⟨(wrap64 (x13_1 + 1)), (by first | rfl | (simp; done) | (simp [*]; done)), H', ⟨by have := HK1.out; omega⟩, ⟨by repeat (first | (with_reducible first | exact HB.out | apply below_alloc | apply pw_below_drewN | apply below_drew1) | exact HB.out)⟩⟩
                · replace c9 := Bool.eq_false_iff.mpr c9
                  subst c9
                  have H1 : (some false) = some r := by rw [if_neg (show ¬ (false = true) by decide)] at H; exact H
                  clear H
                  have H := H1
                  clear H1
                  obtain rfl := Option.some.inj H
                  try go_wp2
                  have n0_ := Aside0.mk (below_drew1 HB.out)
                  clear HB
                  have HB := n0_
                  clear n0_
                  have p176 : 0 ≤ (x13_1 : Int) := of_decide_eq_true (by first | (with_reducible assumption) | assumption)
                  have q176 : x13_1 < (l0.length : Int) := of_decide_eq_true (by first | (with_reducible assumption) | assumption)
                  obtain ⟨ad176, A176_3, c176_3, e176, hx176_0, hx176_1, hx176_2, hx176_3, hl176_3, hi176_3⟩ := at_T37 HR0.out x13_1 p176 q176
                  have hw176_3 := hx176_3
                  have hw176_2 := hx176_2
                  have hw176_1 := hx176_1
                  have hw176_0 := hx176_0
                  cases e176
                  replace hx176_0 := (HB.out.cell (World.block_lt_of_cell? w _ hx176_0)).trans hx176_0
                  replace hx176_1 := (HB.out.cell (World.block_lt_of_cell? w _ hx176_1)).trans hx176_1
                  replace hx176_2 := (HB.out.cell (World.block_lt_of_cell? w _ hx176_2)).trans hx176_2
                  replace hx176_3 := (HB.out.cell (World.block_lt_of_cell? w _ hx176_3)).trans hx176_3
                  have HR176_3 := Aside0.mk hi176_3
                  have HC176_3 := Aside0.mk hl176_3
                  clear hi176_3 hl176_3
                  replace p176 := eq_true p176
                  replace q176 := eq_true q176
                  have p177 : 0 ≤ (x13_1 : Int) := of_decide_eq_true (by first | (with_reducible assumption) | assumption)
                  have q177 : x13_1 < (l1.length : Int) := of_decide_eq_true (by first | (with_reducible assumption) | assumption)
                  obtain ⟨ad177, A177_3, c177_3, e177, hx177_0, hx177_1, hx177_2, hx177_3, hl177_3, hi177_3⟩ := at_T37 HR1.out x13_1 p177 q177
                  have hw177_3 := hx177_3
                  have hw177_2 := hx177_2
                  have hw177_1 := hx177_1
                  have hw177_0 := hx177_0
                  cases e177
                  replace hx177_0 := (HB.out.cell (World.block_lt_of_cell? w _ hx177_0)).trans hx177_0
                  replace hx177_1 := (HB.out.cell (World.block_lt_of_cell? w _ hx177_1)).trans hx177_1
                  replace hx177_2 := (HB.out.cell (World.block_lt_of_cell? w _ hx177_2)).trans hx177_2
                  replace hx177_3 := (HB.out.cell (World.block_lt_of_cell? w _ hx177_3)).trans hx177_3
                  have HR177_3 := Aside0.mk hi177_3
                  have HC177_3 := Aside0.mk hl177_3
                  clear hi177_3 hl177_3
                  replace p177 := eq_true p177
                  replace q177 := eq_true q177
                  refine start_ (n := 10) (S := fun w' => w'.cell? (ad176.add ((x13_1).toNat * 4)) = some (.int .i64 ((rd_T37 l0 x13_1).f0)) ∧ w'.cell? ⟨(ad176.add ((x13_1).toNat * 4)).block, (ad176.add ((x13_1).toNat * 4)).off + 1, none⟩ = some (.int .i64 ((rd_T37 l0 x13_1).f1)) ∧ w'.cell? ⟨(ad176.add ((x13_1).toNat * 4)).block, (ad176.add ((x13_1).toNat * 4)).off + 2, none⟩ = some (.string ((rd_T37 l0 x13_1).f2)) ∧ w'.cell? ⟨(ad176.add ((x13_1).toNat * 4)).block, (ad176.add ((x13_1).toNat * 4)).off + 3, none⟩ = some (.slice A176_3 ((rd_T37 l0 x13_1).f3).length c176_3) ∧ w'.cell? (ad177.add ((x13_1).toNat * 4)) = some (.int .i64 ((rd_T37 l1 x13_1).f0)) ∧ w'.cell? ⟨(ad177.add ((x13_1).toNat * 4)).block, (ad177.add ((x13_1).toNat * 4)).off + 1, none⟩ = some (.int .i64 ((rd_T37 l1 x13_1).f1)) ∧ w'.cell? ⟨(ad177.add ((x13_1).toNat * 4)).block, (ad177.add ((x13_1).toNat * 4)).off + 2, none⟩ = some (.string ((rd_T37 l1 x13_1).f2)) ∧ w'.cell? ⟨(ad177.add ((x13_1).toNat * 4)).block, (ad177.add ((x13_1).toNat * 4)).off + 3, none⟩ = some (.slice A177_3 ((rd_T37 l1 x13_1).f3).length c177_3)) (ds := []) #[false, false, false, false, false, false, false, false, false, false] (by kernel_rfl) rfl rfl ⟨((HB.out.cell (World.block_lt_of_cell? w _ hw176_0)).trans hw176_0), ((HB.out.cell (World.block_lt_of_cell? w _ hw176_1)).trans hw176_1), ((HB.out.cell (World.block_lt_of_cell? w _ hw176_2)).trans hw176_2), ((HB.out.cell (World.block_lt_of_cell? w _ hw176_3)).trans hw176_3), ((HB.out.cell (World.block_lt_of_cell? w _ hw177_0)).trans hw177_0), ((HB.out.cell (World.block_lt_of_cell? w _ hw177_1)).trans hw177_1), ((HB.out.cell (World.block_lt_of_cell? w _ hw177_2)).trans hw177_2), ((HB.out.cell (World.block_lt_of_cell? w _ hw177_3)).trans hw177_3)⟩ (fun hHeld => ?_); refine with_tabW switchyardref06_SameAll.tab6 switchyardref06_SameAll.bits6 (fun HT_ HW_ => ?_)
                  generalize wr.drew = w12 at HB HR176_3 HR177_3 hx176_0 hx176_1 hx176_2 hx176_3 hx177_0 hx177_1 hx177_2 hx177_3 hHeld ⊢
                  refine pure_ (i := 0) (N := some 16) (v := ?_) (a' := ?_) #[true, false, false, false, false, false, false, false, false, false] rfl rfl (any_of HT_.out (by kernel_rfl)) (fun _ _ _ h => h) (Or.inl ⟨by rfl, ?_⟩) ?_ ?_
                  rotate_left
                  · intro w'
                    go_simp
                    with_reducible rfl
                  rotate_left
                  · simp only [Act.put, List.setIfInBounds_toArray, List.set_cons_zero, List.set_cons_succ, i64_w, i32_w]
                    rfl
                  refine pure_ (i := 1) (N := some 17) (v := ?_) (a' := ?_) #[true, true, false, false, false, false, false, false, false, false] rfl rfl (any_of HT_.out (by kernel_rfl)) (fun _ _ _ h => h) (Or.inl ⟨by rfl, ?_⟩) ?_ ?_
                  rotate_left
                  · intro w'
                    go_simp
                    with_reducible rfl
                  rotate_left
                  · simp only [Act.put, List.setIfInBounds_toArray, List.set_cons_zero, List.set_cons_succ, i64_w, i32_w]
                    rfl
                  refine pure_ (i := 2) (N := some 18) (v := ?_) (a' := ?_) #[true, true, true, false, false, false, false, false, false, false] rfl rfl (any_of HT_.out (by kernel_rfl)) (fun _ _ _ h => h) (Or.inl ⟨by rfl, ?_⟩) ?_ ?_
                  rotate_left
                  · intro w'
                    go_simp
                    with_reducible rfl
                  rotate_left
                  · simp only [Act.put, List.setIfInBounds_toArray, List.set_cons_zero, List.set_cons_succ, i64_w, i32_w]
                    rfl
                  refine pure_ (i := 4) (N := some 20) (v := ?_) (a' := ?_) #[true, true, true, false, true, false, false, false, false, false] rfl rfl (any_of HT_.out (by kernel_rfl)) (fun _ _ _ h => h) (Or.inl ⟨by rfl, ?_⟩) ?_ ?_
                  rotate_left
                  · intro w'
                    go_simp
                    with_reducible rfl
                  rotate_left
                  · simp only [Act.put, List.setIfInBounds_toArray, List.set_cons_zero, List.set_cons_succ, i64_w, i32_w]
                    rfl
                  refine pure_ (i := 5) (N := some 21) (v := ?_) (a' := ?_) #[true, true, true, false, true, true, false, false, false, false] rfl rfl (any_of HT_.out (by kernel_rfl)) (fun _ _ _ h => h) (Or.inl ⟨by rfl, ?_⟩) ?_ ?_
                  rotate_left
                  · intro w'
                    go_simp
                    with_reducible rfl
                  rotate_left
                  · simp only [Act.put, List.setIfInBounds_toArray, List.set_cons_zero, List.set_cons_succ, i64_w, i32_w]
                    rfl
                  refine pure_ (i := 6) (N := some 22) (v := ?_) (a' := ?_) #[true, true, true, false, true, true, true, false, false, false] rfl rfl (any_of HT_.out (by kernel_rfl)) (fun _ _ _ h => h) (Or.inl ⟨by rfl, ?_⟩) ?_ ?_
                  rotate_left
                  · intro w'
                    go_simp
                    with_reducible rfl
                  rotate_left
                  · simp only [Act.put, List.setIfInBounds_toArray, List.set_cons_zero, List.set_cons_succ, i64_w, i32_w]
                    rfl
                  refine take_ (i := 3) (N := some 19) (v := ?_) (a' := ?_) #[true, true, true, true, true, true, true, false, false, false] rfl rfl (take_ofW HT_.out HW_.out (by kernel_rfl)) (fun _ _ _ h => h) (Or.inl ⟨by rfl, ?_⟩) hHeld ?_ ?_
                  rotate_left
                  · rintro w' ⟨s0, s1, s2, s3, s4, s5, s6, s7⟩
                    go_simp
                    with_reducible rfl
                  rotate_left
                  · simp only [Act.put, List.setIfInBounds_toArray, List.set_cons_zero, List.set_cons_succ, i64_w, i32_w]
                    rfl
                  refine take_ (i := 7) (N := some 23) (v := ?_) (a' := ?_) #[true, true, true, true, true, true, true, true, false, false] rfl rfl (take_ofW HT_.out HW_.out (by kernel_rfl)) (fun _ _ _ h => h) (Or.inl ⟨by rfl, ?_⟩) hHeld ?_ ?_
                  rotate_left
                  · rintro w' ⟨s0, s1, s2, s3, s4, s5, s6, s7⟩
                    go_simp
                    with_reducible rfl
                  rotate_left
                  · simp only [Act.put, List.setIfInBounds_toArray, List.set_cons_zero, List.set_cons_succ, i64_w, i32_w]
                    rfl
                  refine one_ (i := 8) (N := some 24) #[true, true, true, true, true, true, true, true, true, false] rfl rfl (one_of HT_.out (by kernel_rfl)) (by decide) (fun K hK => ?_)
                  refine goes_ Tryd.func31 (by kernel_rfl) rfl #[.agg #[.int .i64 ((rd_T37 l0 x13_1).f0), .int .i64 ((rd_T37 l0 x13_1).f1), .string ((rd_T37 l0 x13_1).f2), .slice A176_3 ((rd_T37 l0 x13_1).f3).length c176_3], .agg #[.int .i64 ((rd_T37 l1 x13_1).f0), .int .i64 ((rd_T37 l1 x13_1).f1), .string ((rd_T37 l1 x13_1).f2), .slice A177_3 ((rd_T37 l1 x13_1).f3).length c177_3]] (by rfl) rfl rfl (by (try simp only [List.map_toArray, List.map_cons, List.map_nil]); first | done | rfl | (simp only [List.length_drop, List.length_take]; rfl)) ?_
                  with_reducible refine (switchyardref06_Same.calls k1 ((rd_T37 l0 x13_1).f0) ((rd_T37 l0 x13_1).f1) ((rd_T37 l0 x13_1).f2) _ _ ((rd_T37 l0 x13_1).f3) ((rd_T37 l1 x13_1).f0) ((rd_T37 l1 x13_1).f1) ((rd_T37 l1 x13_1).f2) _ _ ((rd_T37 l1 x13_1).f3) false _ ?side1 ?side2 ?side3 ?side4 A8.out).mono ?_
                  (case side1 => repeat (first | exact (Kd.C_below HR176_3.out HB.out) | (with_reducible refine Kd.C_alloc ?_ _) | (with_reducible refine Kd.C_drewN ?_ _) | (with_reducible refine Kd.C_drew ?_)))
                  (case side2 => exact HC176_3.out)
                  (case side3 => repeat (first | exact (Kd.C_below HR177_3.out HB.out) | (with_reducible refine Kd.C_alloc ?_ _) | (with_reducible refine Kd.C_drewN ?_ _) | (with_reducible refine Kd.C_drew ?_)))
                  (case side4 => exact HC177_3.out)
                  rintro e w13 ⟨rfl, hb⟩
                  refine ⟨_, rfl, ?_⟩
                  have n0_ := Aside0.mk (below_step (by repeat (first | (with_reducible first | exact HB.out | apply below_alloc | apply pw_below_drewN | apply below_drew1) | exact HB.out)) hb)
                  clear HB
                  have HB := n0_
                  clear n0_
                  (try clear hb)
                  (try clear hb2)
                  (try clear hk)
                  (try clear hi)
                  refine hK.out _ _ ⟨((HB.out.cell (World.block_lt_of_cell? w _ hw176_0)).trans hw176_0), ((HB.out.cell (World.block_lt_of_cell? w _ hw176_1)).trans hw176_1), ((HB.out.cell (World.block_lt_of_cell? w _ hw176_2)).trans hw176_2), ((HB.out.cell (World.block_lt_of_cell? w _ hw176_3)).trans hw176_3), ((HB.out.cell (World.block_lt_of_cell? w _ hw177_0)).trans hw177_0), ((HB.out.cell (World.block_lt_of_cell? w _ hw177_1)).trans hw177_1), ((HB.out.cell (World.block_lt_of_cell? w _ hw177_2)).trans hw177_2), ((HB.out.cell (World.block_lt_of_cell? w _ hw177_3)).trans hw177_3)⟩ (fun hHeld => ?_)
                  clear hK K
                  refine norm_ (a' := ?_) ?_ ?_
                  rotate_left
                  · show Act.put _ (some 24) _ = _
                    simp only [Act.put, List.setIfInBounds_toArray, List.set_cons_zero, List.set_cons_succ, i64_w, i32_w]
                    rfl
                  refine pure_ (i := 9) (N := some 25) (v := ?_) (a' := ?_) #[true, true, true, true, true, true, true, true, true, true] rfl rfl (any_of HT_.out (by kernel_rfl)) (fun _ _ _ h => h) (Or.inl ⟨by rfl, ?_⟩) ?_ ?_
                  rotate_left
                  · intro w'
                    go_simp
                    with_reducible rfl
                  rotate_left
                  · simp only [Act.put, List.setIfInBounds_toArray, List.set_cons_zero, List.set_cons_succ, i64_w, i32_w]
                    rfl
                  refine done_ (done_of HT_.out (by kernel_rfl)) ?_
                  try go_wp2
                  go_ret
                  exact ⟨by first | rfl | (simp [errW_none, errW_some] <;> rfl) | (simp [*, errW_none, errW_some] <;> rfl), by repeat (first | (with_reducible first | exact HB.out | apply below_alloc | apply pw_below_drewN | apply below_drew1) | exact HB.out)⟩
              · rw [if_neg c7] at H
                exact absurd H (by simp)
            · rw [if_neg c6] at H
              exact absurd H (by simp)
          · rw [if_neg c5] at H
            exact absurd H (by simp)
        · rw [if_neg c4] at H
          have c4b0 : decide (x13_1 < (l0.length : Int)) = false := decide_eq_false c4
          clear c4
          obtain rfl := Option.some.inj H
          go_wp2
          go_ret
          exact ⟨by first | rfl | (simp [errW_none, errW_some] <;> rfl) | (simp [*, errW_none, errW_some] <;> rfl), by repeat (first | (with_reducible first | exact HB.out | apply below_alloc | apply pw_below_drewN | apply below_drew1) | exact HB.out)⟩
  · rw [if_neg c3] at H
    have c3b0 : ((l0.length : Int) == (l1.length : Int)) = false := beq_eq_false_iff_ne.mpr c3
    have c3b1 : ((l0.length : Int) != (l1.length : Int)) = true := bne_iff_ne.mpr c3
    have c3b2 : (l0.length == l1.length) = false := by first | simpa using c3 | (simp at c3 ⊢; omega)
    obtain rfl := Option.some.inj H
    go_enter Tryd.func29, Tryd.ntmps29
    go_wp2
    go_ret
    exact ⟨by first | rfl | (simp [errW_none, errW_some] <;> rfl) | (simp [*, errW_none, errW_some] <;> rfl), by repeat (first | (with_reducible first | exact HB.out | apply below_alloc | apply pw_below_drewN | apply below_drew1) | exact HB.out)⟩
def switchyardref13_SameMail.f (k : Nat) (a0_0 : Int) (a0_1 : ByteArray) (l0_2 : List (S37)) (l0_3 : List (S37)) (a1_0 : Int) (a1_1 : ByteArray) (l1_2 : List (S37)) (l1_3 : List (S37)) : Option (Bool) := if a0_0 = a1_0 then (if a0_1.toList = a1_1.toList then ((switchyardref06_SameAll.f k l0_2 l1_2).bind fun t181 => (if t181 = true then ((switchyardref06_SameAll.f k l0_3 l1_3).bind fun t182 => (some t182)) else (some false))) else (some false)) else (some false)
set_option maxHeartbeats 600000 in
set_option maxRecDepth 100000 in
theorem switchyardref13_SameMail.calls (k : Nat) (a0_0 : Int) (a0_1 : ByteArray) (A0_2 : Option Addr) (c0_2 : Nat) (l0_2 : List (S37)) (A0_3 : Option Addr) (c0_3 : Nat) (l0_3 : List (S37)) (a1_0 : Int) (a1_1 : ByteArray) (A1_2 : Option Addr) (c1_2 : Nat) (l1_2 : List (S37)) (A1_3 : Option Addr) (c1_3 : Nat) (l1_3 : List (S37)) (r : Bool) (w : World) (hr0_2 : Kd.C k37 w A0_2 l0_2.length l0_2) (hc0_2 : l0_2.length ≤ c0_2) (hr0_3 : Kd.C k37 w A0_3 l0_3.length l0_3) (hc0_3 : l0_3.length ≤ c0_3) (hr1_2 : Kd.C k37 w A1_2 l1_2.length l1_2) (hc1_2 : l1_2.length ≤ c1_2) (hr1_3 : Kd.C k37 w A1_3 l1_3.length l1_3) (hc1_3 : l1_3.length ≤ c1_3) (h : switchyardref13_SameMail.f k a0_0 a0_1 l0_2 l0_3 a1_0 a1_1 l1_2 l1_3 = some r) :
    Calls Tryd.prog 25 #[.agg #[.int .i64 a0_0, .string a0_1, .slice A0_2 l0_2.length c0_2, .slice A0_3 l0_3.length c0_3], .agg #[.int .i64 a1_0, .string a1_1, .slice A1_2 l1_2.length c1_2, .slice A1_3 l1_3.length c1_3]] w fun e w' => e = .returned (.bool r) ∧ Below w.heap.size w w' := by
  have hu25 := Tryd.underlying25
  have HR0_2 := Aside0.mk hr0_2
  have HC0_2 := Aside0.mk hc0_2
  clear hr0_2 hc0_2
  have HR0_3 := Aside0.mk hr0_3
  have HC0_3 := Aside0.mk hc0_3
  clear hr0_3 hc0_3
  have HR1_2 := Aside0.mk hr1_2
  have HC1_2 := Aside0.mk hc1_2
  clear hr1_2 hc1_2
  have HR1_3 := Aside0.mk hr1_3
  have HC1_3 := Aside0.mk hc1_3
  clear hr1_3 hc1_3
  have HB := Aside0.mk (Below.refl w.heap.size w)
  have H : (if a0_0 = a1_0 then (if a0_1.toList = a1_1.toList then ((switchyardref06_SameAll.f k l0_2 l1_2).bind fun t181 => (if t181 = true then ((switchyardref06_SameAll.f k l0_3 l1_3).bind fun t182 => (some t182)) else (some false))) else (some false)) else (some false)) = some r := h
  clear h
  by_cases c3 : a0_0 = a1_0
  · rw [if_pos c3] at H
    have c3b0 : (a0_0 == a1_0) = true := beq_iff_eq.mpr c3
    have c3b1 : (a0_0 != a1_0) = false := bne_eq_false_iff_eq.mpr c3
    clear c3
    by_cases c4 : a0_1.toList = a1_1.toList
    · rw [if_pos c4] at H
      have c4b0 : (a0_1.toList == a1_1.toList) = true := beq_iff_eq.mpr c4
      have c4b1 : (a0_1.toList != a1_1.toList) = false := bne_eq_false_iff_eq.mpr c4
      clear c4
      replace H := Option.bind_eq_some_iff.mp H
      obtain ⟨t181, A50, H⟩ := H
      replace H : (if t181 = true then ((switchyardref06_SameAll.f k l0_3 l1_3).bind fun t182 => (some t182)) else (some false)) = some r := H
      have A5 := Aside0.mk A50
      clear A50
      by_cases c6 : t181 = true
      · subst c6
        have H1 : ((switchyardref06_SameAll.f k l0_3 l1_3).bind fun t182 => (some t182)) = some r := by rw [if_pos rfl] at H; exact H
        clear H
        have H := H1
        clear H1
        replace H := Option.bind_eq_some_iff.mp H
        obtain ⟨t182, A70, H⟩ := H
        replace H : (some t182) = some r := H
        have A7 := Aside0.mk A70
        clear A70
        obtain rfl := Option.some.inj H
        go_enter Tryd.func25, Tryd.ntmps25
        go_wp2_with (first | ((with_reducible refine gate_dst (N := 2) rfl ?_); refine box_event ?hg (N := 2) ?hd (cs := #[.int .i64 a0_0, .string a0_1, .slice A0_2 l0_2.length c0_2, .slice A0_3 l0_3.length c0_3]) (t := 25) ?hr ?_; (case hd => rfl); (case hg => rfl); (case hr => first | (go_simp; done) | (go_simp; rfl)); intro gb179 hg w8 hbox hb; have n0_ := Aside0.mk (below_step (by repeat (first | (with_reducible first | exact HB.out | apply below_alloc | apply pw_below_drewN | apply below_drew1) | exact HB.out)) hb); have n1_ := Aside0.mk (hbox); have n2_ := Aside0.mk ((by rw [hg]; exact (below_size (by repeat (first | (with_reducible first | exact HB.out | apply below_alloc | apply pw_below_drewN | apply below_drew1) | exact HB.out))) : w.heap.size ≤ gb179)); have n3_ := Aside0.mk ((by rw [hg]; exact (below_size (by repeat (first | (with_reducible first | exact HB.out | apply below_alloc | apply pw_below_drewN | apply below_drew1) | exact HB.out))) : w.heap.size ≤ gb179)); clear HB; have HB := n0_; have BK179 := n1_; have GW179 := n2_; have GE179 := n3_; clear n0_ n1_ n2_ n3_; clear hb hbox hg) | ((with_reducible refine gate_dst (N := 3) rfl ?_); refine box_event ?hg (N := 3) ?hd (cs := #[.int .i64 a1_0, .string a1_1, .slice A1_2 l1_2.length c1_2, .slice A1_3 l1_3.length c1_3]) (t := 25) ?hr ?_; (case hd => rfl); (case hg => rfl); (case hr => first | (go_simp; done) | (go_simp; rfl)); intro gb180 hg w9 hbox hb; have n0_ := Aside0.mk (blk_below (g := gb179) (o := .cells #[.int .i64 a0_0, .string a0_1, .slice A0_2 l0_2.length c0_2, .slice A0_3 l0_3.length c0_3] 25 (0, 0)) (by (with_reducible repeat (first | refine blk_drewN ?_ _ | refine blk_drew ?_ | refine blk_alloc ?_ _)); exact BK179.out) hb); have n1_ := Aside0.mk (below_step (by repeat (first | (with_reducible first | exact HB.out | apply below_alloc | apply pw_below_drewN | apply below_drew1 | refine below_set ?_ GE179.out) | exact HB.out)) hb); have n2_ := Aside0.mk (hbox); have n3_ := Aside0.mk ((by rw [hg]; exact (below_size (by repeat (first | (with_reducible first | exact HB.out | apply below_alloc | apply pw_below_drewN | apply below_drew1 | refine below_set ?_ GE179.out) | exact HB.out))) : w.heap.size ≤ gb180)); have n4_ := Aside0.mk ((by rw [hg]; exact (below_size (by repeat (first | (with_reducible first | exact HB.out | apply below_alloc | apply pw_below_drewN | apply below_drew1 | refine below_set ?_ GE179.out) | exact HB.out))) : w.heap.size ≤ gb180)); have n5_ := Aside0.mk ((by rw [hg]; exact Nat.ne_of_lt (blk_lt (g := gb179) (o := .cells #[.int .i64 a0_0, .string a0_1, .slice A0_2 l0_2.length c0_2, .slice A0_3 l0_3.length c0_3] 25 (0, 0)) (by (with_reducible repeat (first | refine blk_drewN ?_ _ | refine blk_drew ?_ | refine blk_alloc ?_ _)); exact BK179.out)) : gb179 ≠ gb180)); have n6_ := Aside0.mk ((by rw [hg]; exact Nat.ne_of_gt (blk_lt (g := gb179) (o := .cells #[.int .i64 a0_0, .string a0_1, .slice A0_2 l0_2.length c0_2, .slice A0_3 l0_3.length c0_3] 25 (0, 0)) (by (with_reducible repeat (first | refine blk_drewN ?_ _ | refine blk_drew ?_ | refine blk_alloc ?_ _)); exact BK179.out)) : gb180 ≠ gb179)); clear BK179; clear HB; have BK179 := n0_; have HB := n1_; have BK180 := n2_; have GW180 := n3_; have GE180 := n4_; have NB179_180 := n5_; have NB180_179 := n6_; clear n0_ n1_ n2_ n3_ n4_ n5_ n6_; clear hb hbox hg; have hnb10 := NB179_180.out; have hnc10 := NB180_179.out; have hcz11_0 : w9.cell? ⟨gb179, 0, none⟩ = some (.int .i64 a0_0) := (blk_cell BK179.out 0).trans rfl; have hcz11_1 : w9.cell? ⟨gb179, 1, none⟩ = some (.string a0_1) := (blk_cell BK179.out 1).trans rfl; have hcz11_2 : w9.cell? ⟨gb179, 2, none⟩ = some (.slice A0_2 l0_2.length c0_2) := (blk_cell BK179.out 2).trans rfl; have hcz11_3 : w9.cell? ⟨gb179, 3, none⟩ = some (.slice A0_3 l0_3.length c0_3) := (blk_cell BK179.out 3).trans rfl; have hfz11_0 := blk_frozen BK179.out 0; have hfz11_1 := blk_frozen BK179.out 1; have hfz11_2 := blk_frozen BK179.out 2; have hfz11_3 := blk_frozen BK179.out 3; have hcz12_0 : w9.cell? ⟨gb180, 0, none⟩ = some (.int .i64 a1_0) := (blk_cell BK180.out 0).trans rfl; have hcz12_1 : w9.cell? ⟨gb180, 1, none⟩ = some (.string a1_1) := (blk_cell BK180.out 1).trans rfl; have hcz12_2 : w9.cell? ⟨gb180, 2, none⟩ = some (.slice A1_2 l1_2.length c1_2) := (blk_cell BK180.out 2).trans rfl; have hcz12_3 : w9.cell? ⟨gb180, 3, none⟩ = some (.slice A1_3 l1_3.length c1_3) := (blk_cell BK180.out 3).trans rfl; have hfz12_0 := blk_frozen BK180.out 0; have hfz12_1 := blk_frozen BK180.out 1; have hfz12_2 := blk_frozen BK180.out 2; have hfz12_3 := blk_frozen BK180.out 3) | (go_at_call 29; refine calls_of_args (args' := #[.slice A0_2 l0_2.length c0_2, .slice A1_2 l1_2.length c1_2]) (by first | rfl) ?_; (with_reducible refine (switchyardref06_SameAll.calls k _ _ l0_2 _ _ l1_2 true _ ?side1 ?side2 ?side3 ?side4 A5.out).mono ?_); (case side1 => repeat (first | exact (Kd.C_below HR0_2.out HB.out) | (with_reducible refine Kd.C_alloc ?_ _) | (with_reducible refine Kd.C_drewN ?_ _) | (with_reducible refine Kd.C_drew ?_))); (case side2 => exact HC0_2.out); (case side3 => repeat (first | exact (Kd.C_below HR1_2.out HB.out) | (with_reducible refine Kd.C_alloc ?_ _) | (with_reducible refine Kd.C_drewN ?_ _) | (with_reducible refine Kd.C_drew ?_))); (case side4 => exact HC1_2.out); rintro e w13 ⟨rfl, hb⟩; have n0_ := Aside0.mk (blk_below (g := gb179) (o := .cells #[.int .i64 a0_0, .string a0_1, .slice A0_2 l0_2.length c0_2, .slice A0_3 l0_3.length c0_3] 25 (0, 0)) (by (with_reducible repeat (first | refine blk_drewN ?_ _ | refine blk_drew ?_ | refine blk_alloc ?_ _)); exact BK179.out) hb); have n1_ := Aside0.mk (blk_below (g := gb180) (o := .cells #[.int .i64 a1_0, .string a1_1, .slice A1_2 l1_2.length c1_2, .slice A1_3 l1_3.length c1_3] 25 (0, 0)) (by (with_reducible repeat (first | refine blk_drewN ?_ _ | refine blk_drew ?_ | refine blk_alloc ?_ _)); exact BK180.out) hb); have n2_ := Aside0.mk (below_step (by repeat (first | (with_reducible first | exact HB.out | apply below_alloc | apply pw_below_drewN | apply below_drew1 | refine below_set ?_ GE179.out | refine below_set ?_ GE180.out) | exact HB.out)) hb); clear BK179; clear BK180; clear HB; have BK179 := n0_; have BK180 := n1_; have HB := n2_; clear n0_ n1_ n2_; (try clear hb); (try clear hb2); (try clear hk); (try clear hi); have hcz14_0 : w13.cell? ⟨gb179, 0, none⟩ = some (.int .i64 a0_0) := (blk_cell BK179.out 0).trans rfl; have hcz14_1 : w13.cell? ⟨gb179, 1, none⟩ = some (.string a0_1) := (blk_cell BK179.out 1).trans rfl; have hcz14_2 : w13.cell? ⟨gb179, 2, none⟩ = some (.slice A0_2 l0_2.length c0_2) := (blk_cell BK179.out 2).trans rfl; have hcz14_3 : w13.cell? ⟨gb179, 3, none⟩ = some (.slice A0_3 l0_3.length c0_3) := (blk_cell BK179.out 3).trans rfl; have hfz14_0 := blk_frozen BK179.out 0; have hfz14_1 := blk_frozen BK179.out 1; have hfz14_2 := blk_frozen BK179.out 2; have hfz14_3 := blk_frozen BK179.out 3; have hcz15_0 : w13.cell? ⟨gb180, 0, none⟩ = some (.int .i64 a1_0) := (blk_cell BK180.out 0).trans rfl; have hcz15_1 : w13.cell? ⟨gb180, 1, none⟩ = some (.string a1_1) := (blk_cell BK180.out 1).trans rfl; have hcz15_2 : w13.cell? ⟨gb180, 2, none⟩ = some (.slice A1_2 l1_2.length c1_2) := (blk_cell BK180.out 2).trans rfl; have hcz15_3 : w13.cell? ⟨gb180, 3, none⟩ = some (.slice A1_3 l1_3.length c1_3) := (blk_cell BK180.out 3).trans rfl; have hfz15_0 := blk_frozen BK180.out 0; have hfz15_1 := blk_frozen BK180.out 1; have hfz15_2 := blk_frozen BK180.out 2; have hfz15_3 := blk_frozen BK180.out 3) | (go_at_call 29; refine calls_of_args (args' := #[.slice A0_3 l0_3.length c0_3, .slice A1_3 l1_3.length c1_3]) (by first | rfl) ?_; (with_reducible refine (switchyardref06_SameAll.calls k _ _ l0_3 _ _ l1_3 t182 _ ?side1 ?side2 ?side3 ?side4 A7.out).mono ?_); (case side1 => repeat (first | exact (Kd.C_below HR0_3.out HB.out) | (with_reducible refine Kd.C_alloc ?_ _) | (with_reducible refine Kd.C_drewN ?_ _) | (with_reducible refine Kd.C_drew ?_))); (case side2 => exact HC0_3.out); (case side3 => repeat (first | exact (Kd.C_below HR1_3.out HB.out) | (with_reducible refine Kd.C_alloc ?_ _) | (with_reducible refine Kd.C_drewN ?_ _) | (with_reducible refine Kd.C_drew ?_))); (case side4 => exact HC1_3.out); rintro e w16 ⟨rfl, hb⟩; have n0_ := Aside0.mk (blk_below (g := gb179) (o := .cells #[.int .i64 a0_0, .string a0_1, .slice A0_2 l0_2.length c0_2, .slice A0_3 l0_3.length c0_3] 25 (0, 0)) (by (with_reducible repeat (first | refine blk_drewN ?_ _ | refine blk_drew ?_ | refine blk_alloc ?_ _)); exact BK179.out) hb); have n1_ := Aside0.mk (blk_below (g := gb180) (o := .cells #[.int .i64 a1_0, .string a1_1, .slice A1_2 l1_2.length c1_2, .slice A1_3 l1_3.length c1_3] 25 (0, 0)) (by (with_reducible repeat (first | refine blk_drewN ?_ _ | refine blk_drew ?_ | refine blk_alloc ?_ _)); exact BK180.out) hb); have n2_ := Aside0.mk (below_step (by repeat (first | (with_reducible first | exact HB.out | apply below_alloc | apply pw_below_drewN | apply below_drew1 | refine below_set ?_ GE179.out | refine below_set ?_ GE180.out) | exact HB.out)) hb); clear BK179; clear BK180; clear HB; have BK179 := n0_; have BK180 := n1_; have HB := n2_; clear n0_ n1_ n2_; (try clear hb); (try clear hb2); (try clear hk); (try clear hi)))
        go_ret
        exact ⟨by first | rfl | (simp [errW_none, errW_some] <;> rfl) | (simp [*, errW_none, errW_some] <;> rfl), by repeat (first | (with_reducible first | exact HB.out | apply below_alloc | apply pw_below_drewN | apply below_drew1 | refine below_set ?_ GE179.out | refine below_set ?_ GE180.out) | exact HB.out)⟩
      · replace c6 := Bool.eq_false_iff.mpr c6
        subst c6
        have H1 : (some false) = some r := by rw [if_neg (show ¬ (false = true) by decide)] at H; exact H
        clear H
        have H := H1
        clear H1
        obtain rfl := Option.some.inj H
        go_enter Tryd.func25, Tryd.ntmps25
        go_wp2_with (first | ((with_reducible refine gate_dst (N := 2) rfl ?_); refine box_event ?hg (N := 2) ?hd (cs := #[.int .i64 a0_0, .string a0_1, .slice A0_2 l0_2.length c0_2, .slice A0_3 l0_3.length c0_3]) (t := 25) ?hr ?_; (case hd => rfl); (case hg => rfl); (case hr => first | (go_simp; done) | (go_simp; rfl)); intro gb179 hg w17 hbox hb; have n0_ := Aside0.mk (below_step (by repeat (first | (with_reducible first | exact HB.out | apply below_alloc | apply pw_below_drewN | apply below_drew1) | exact HB.out)) hb); have n1_ := Aside0.mk (hbox); have n2_ := Aside0.mk ((by rw [hg]; exact (below_size (by repeat (first | (with_reducible first | exact HB.out | apply below_alloc | apply pw_below_drewN | apply below_drew1) | exact HB.out))) : w.heap.size ≤ gb179)); have n3_ := Aside0.mk ((by rw [hg]; exact (below_size (by repeat (first | (with_reducible first | exact HB.out | apply below_alloc | apply pw_below_drewN | apply below_drew1) | exact HB.out))) : w.heap.size ≤ gb179)); clear HB; have HB := n0_; have BK179 := n1_; have GW179 := n2_; have GE179 := n3_; clear n0_ n1_ n2_ n3_; clear hb hbox hg) | ((with_reducible refine gate_dst (N := 3) rfl ?_); refine box_event ?hg (N := 3) ?hd (cs := #[.int .i64 a1_0, .string a1_1, .slice A1_2 l1_2.length c1_2, .slice A1_3 l1_3.length c1_3]) (t := 25) ?hr ?_; (case hd => rfl); (case hg => rfl); (case hr => first | (go_simp; done) | (go_simp; rfl)); intro gb180 hg w18 hbox hb; have n0_ := Aside0.mk (blk_below (g := gb179) (o := .cells #[.int .i64 a0_0, .string a0_1, .slice A0_2 l0_2.length c0_2, .slice A0_3 l0_3.length c0_3] 25 (0, 0)) (by (with_reducible repeat (first | refine blk_drewN ?_ _ | refine blk_drew ?_ | refine blk_alloc ?_ _)); exact BK179.out) hb); have n1_ := Aside0.mk (below_step (by repeat (first | (with_reducible first | exact HB.out | apply below_alloc | apply pw_below_drewN | apply below_drew1 | refine below_set ?_ GE179.out) | exact HB.out)) hb); have n2_ := Aside0.mk (hbox); have n3_ := Aside0.mk ((by rw [hg]; exact (below_size (by repeat (first | (with_reducible first | exact HB.out | apply below_alloc | apply pw_below_drewN | apply below_drew1 | refine below_set ?_ GE179.out) | exact HB.out))) : w.heap.size ≤ gb180)); have n4_ := Aside0.mk ((by rw [hg]; exact (below_size (by repeat (first | (with_reducible first | exact HB.out | apply below_alloc | apply pw_below_drewN | apply below_drew1 | refine below_set ?_ GE179.out) | exact HB.out))) : w.heap.size ≤ gb180)); have n5_ := Aside0.mk ((by rw [hg]; exact Nat.ne_of_lt (blk_lt (g := gb179) (o := .cells #[.int .i64 a0_0, .string a0_1, .slice A0_2 l0_2.length c0_2, .slice A0_3 l0_3.length c0_3] 25 (0, 0)) (by (with_reducible repeat (first | refine blk_drewN ?_ _ | refine blk_drew ?_ | refine blk_alloc ?_ _)); exact BK179.out)) : gb179 ≠ gb180)); have n6_ := Aside0.mk ((by rw [hg]; exact Nat.ne_of_gt (blk_lt (g := gb179) (o := .cells #[.int .i64 a0_0, .string a0_1, .slice A0_2 l0_2.length c0_2, .slice A0_3 l0_3.length c0_3] 25 (0, 0)) (by (with_reducible repeat (first | refine blk_drewN ?_ _ | refine blk_drew ?_ | refine blk_alloc ?_ _)); exact BK179.out)) : gb180 ≠ gb179)); clear BK179; clear HB; have BK179 := n0_; have HB := n1_; have BK180 := n2_; have GW180 := n3_; have GE180 := n4_; have NB179_180 := n5_; have NB180_179 := n6_; clear n0_ n1_ n2_ n3_ n4_ n5_ n6_; clear hb hbox hg; have hnb19 := NB179_180.out; have hnc19 := NB180_179.out; have hcz20_0 : w18.cell? ⟨gb179, 0, none⟩ = some (.int .i64 a0_0) := (blk_cell BK179.out 0).trans rfl; have hcz20_1 : w18.cell? ⟨gb179, 1, none⟩ = some (.string a0_1) := (blk_cell BK179.out 1).trans rfl; have hcz20_2 : w18.cell? ⟨gb179, 2, none⟩ = some (.slice A0_2 l0_2.length c0_2) := (blk_cell BK179.out 2).trans rfl; have hcz20_3 : w18.cell? ⟨gb179, 3, none⟩ = some (.slice A0_3 l0_3.length c0_3) := (blk_cell BK179.out 3).trans rfl; have hfz20_0 := blk_frozen BK179.out 0; have hfz20_1 := blk_frozen BK179.out 1; have hfz20_2 := blk_frozen BK179.out 2; have hfz20_3 := blk_frozen BK179.out 3; have hcz21_0 : w18.cell? ⟨gb180, 0, none⟩ = some (.int .i64 a1_0) := (blk_cell BK180.out 0).trans rfl; have hcz21_1 : w18.cell? ⟨gb180, 1, none⟩ = some (.string a1_1) := (blk_cell BK180.out 1).trans rfl; have hcz21_2 : w18.cell? ⟨gb180, 2, none⟩ = some (.slice A1_2 l1_2.length c1_2) := (blk_cell BK180.out 2).trans rfl; have hcz21_3 : w18.cell? ⟨gb180, 3, none⟩ = some (.slice A1_3 l1_3.length c1_3) := (blk_cell BK180.out 3).trans rfl; have hfz21_0 := blk_frozen BK180.out 0; have hfz21_1 := blk_frozen BK180.out 1; have hfz21_2 := blk_frozen BK180.out 2; have hfz21_3 := blk_frozen BK180.out 3) | (go_at_call 29; refine calls_of_args (args' := #[.slice A0_2 l0_2.length c0_2, .slice A1_2 l1_2.length c1_2]) (by first | rfl) ?_; (with_reducible refine (switchyardref06_SameAll.calls k _ _ l0_2 _ _ l1_2 false _ ?side1 ?side2 ?side3 ?side4 A5.out).mono ?_); (case side1 => repeat (first | exact (Kd.C_below HR0_2.out HB.out) | (with_reducible refine Kd.C_alloc ?_ _) | (with_reducible refine Kd.C_drewN ?_ _) | (with_reducible refine Kd.C_drew ?_))); (case side2 => exact HC0_2.out); (case side3 => repeat (first | exact (Kd.C_below HR1_2.out HB.out) | (with_reducible refine Kd.C_alloc ?_ _) | (with_reducible refine Kd.C_drewN ?_ _) | (with_reducible refine Kd.C_drew ?_))); (case side4 => exact HC1_2.out); rintro e w22 ⟨rfl, hb⟩; have n0_ := Aside0.mk (blk_below (g := gb179) (o := .cells #[.int .i64 a0_0, .string a0_1, .slice A0_2 l0_2.length c0_2, .slice A0_3 l0_3.length c0_3] 25 (0, 0)) (by (with_reducible repeat (first | refine blk_drewN ?_ _ | refine blk_drew ?_ | refine blk_alloc ?_ _)); exact BK179.out) hb); have n1_ := Aside0.mk (blk_below (g := gb180) (o := .cells #[.int .i64 a1_0, .string a1_1, .slice A1_2 l1_2.length c1_2, .slice A1_3 l1_3.length c1_3] 25 (0, 0)) (by (with_reducible repeat (first | refine blk_drewN ?_ _ | refine blk_drew ?_ | refine blk_alloc ?_ _)); exact BK180.out) hb); have n2_ := Aside0.mk (below_step (by repeat (first | (with_reducible first | exact HB.out | apply below_alloc | apply pw_below_drewN | apply below_drew1 | refine below_set ?_ GE179.out | refine below_set ?_ GE180.out) | exact HB.out)) hb); clear BK179; clear BK180; clear HB; have BK179 := n0_; have BK180 := n1_; have HB := n2_; clear n0_ n1_ n2_; (try clear hb); (try clear hb2); (try clear hk); (try clear hi)))
        go_ret
        exact ⟨by first | rfl | (simp [errW_none, errW_some] <;> rfl) | (simp [*, errW_none, errW_some] <;> rfl), by repeat (first | (with_reducible first | exact HB.out | apply below_alloc | apply pw_below_drewN | apply below_drew1 | refine below_set ?_ GE179.out | refine below_set ?_ GE180.out) | exact HB.out)⟩
    · rw [if_neg c4] at H
      have c4b0 : (a0_1.toList == a1_1.toList) = false := beq_eq_false_iff_ne.mpr c4
      have c4b1 : (a0_1.toList != a1_1.toList) = true := bne_iff_ne.mpr c4
      obtain rfl := Option.some.inj H
      go_enter Tryd.func25, Tryd.ntmps25
      go_wp2_with (first | ((with_reducible refine gate_dst (N := 2) rfl ?_); refine box_event ?hg (N := 2) ?hd (cs := #[.int .i64 a0_0, .string a0_1, .slice A0_2 l0_2.length c0_2, .slice A0_3 l0_3.length c0_3]) (t := 25) ?hr ?_; (case hd => rfl); (case hg => rfl); (case hr => first | (go_simp; done) | (go_simp; rfl)); intro gb179 hg w23 hbox hb; have n0_ := Aside0.mk (below_step (by repeat (first | (with_reducible first | exact HB.out | apply below_alloc | apply pw_below_drewN | apply below_drew1) | exact HB.out)) hb); have n1_ := Aside0.mk (hbox); have n2_ := Aside0.mk ((by rw [hg]; exact (below_size (by repeat (first | (with_reducible first | exact HB.out | apply below_alloc | apply pw_below_drewN | apply below_drew1) | exact HB.out))) : w.heap.size ≤ gb179)); have n3_ := Aside0.mk ((by rw [hg]; exact (below_size (by repeat (first | (with_reducible first | exact HB.out | apply below_alloc | apply pw_below_drewN | apply below_drew1) | exact HB.out))) : w.heap.size ≤ gb179)); clear HB; have HB := n0_; have BK179 := n1_; have GW179 := n2_; have GE179 := n3_; clear n0_ n1_ n2_ n3_; clear hb hbox hg) | ((with_reducible refine gate_dst (N := 3) rfl ?_); refine box_event ?hg (N := 3) ?hd (cs := #[.int .i64 a1_0, .string a1_1, .slice A1_2 l1_2.length c1_2, .slice A1_3 l1_3.length c1_3]) (t := 25) ?hr ?_; (case hd => rfl); (case hg => rfl); (case hr => first | (go_simp; done) | (go_simp; rfl)); intro gb180 hg w24 hbox hb; have n0_ := Aside0.mk (blk_below (g := gb179) (o := .cells #[.int .i64 a0_0, .string a0_1, .slice A0_2 l0_2.length c0_2, .slice A0_3 l0_3.length c0_3] 25 (0, 0)) (by (with_reducible repeat (first | refine blk_drewN ?_ _ | refine blk_drew ?_ | refine blk_alloc ?_ _)); exact BK179.out) hb); have n1_ := Aside0.mk (below_step (by repeat (first | (with_reducible first | exact HB.out | apply below_alloc | apply pw_below_drewN | apply below_drew1 | refine below_set ?_ GE179.out) | exact HB.out)) hb); have n2_ := Aside0.mk (hbox); have n3_ := Aside0.mk ((by rw [hg]; exact (below_size (by repeat (first | (with_reducible first | exact HB.out | apply below_alloc | apply pw_below_drewN | apply below_drew1 | refine below_set ?_ GE179.out) | exact HB.out))) : w.heap.size ≤ gb180)); have n4_ := Aside0.mk ((by rw [hg]; exact (below_size (by repeat (first | (with_reducible first | exact HB.out | apply below_alloc | apply pw_below_drewN | apply below_drew1 | refine below_set ?_ GE179.out) | exact HB.out))) : w.heap.size ≤ gb180)); have n5_ := Aside0.mk ((by rw [hg]; exact Nat.ne_of_lt (blk_lt (g := gb179) (o := .cells #[.int .i64 a0_0, .string a0_1, .slice A0_2 l0_2.length c0_2, .slice A0_3 l0_3.length c0_3] 25 (0, 0)) (by (with_reducible repeat (first | refine blk_drewN ?_ _ | refine blk_drew ?_ | refine blk_alloc ?_ _)); exact BK179.out)) : gb179 ≠ gb180)); have n6_ := Aside0.mk ((by rw [hg]; exact Nat.ne_of_gt (blk_lt (g := gb179) (o := .cells #[.int .i64 a0_0, .string a0_1, .slice A0_2 l0_2.length c0_2, .slice A0_3 l0_3.length c0_3] 25 (0, 0)) (by (with_reducible repeat (first | refine blk_drewN ?_ _ | refine blk_drew ?_ | refine blk_alloc ?_ _)); exact BK179.out)) : gb180 ≠ gb179)); clear BK179; clear HB; have BK179 := n0_; have HB := n1_; have BK180 := n2_; have GW180 := n3_; have GE180 := n4_; have NB179_180 := n5_; have NB180_179 := n6_; clear n0_ n1_ n2_ n3_ n4_ n5_ n6_; clear hb hbox hg; have hnb25 := NB179_180.out; have hnc25 := NB180_179.out; have hcz26_0 : w24.cell? ⟨gb179, 0, none⟩ = some (.int .i64 a0_0) := (blk_cell BK179.out 0).trans rfl; have hcz26_1 : w24.cell? ⟨gb179, 1, none⟩ = some (.string a0_1) := (blk_cell BK179.out 1).trans rfl; have hcz26_2 : w24.cell? ⟨gb179, 2, none⟩ = some (.slice A0_2 l0_2.length c0_2) := (blk_cell BK179.out 2).trans rfl; have hcz26_3 : w24.cell? ⟨gb179, 3, none⟩ = some (.slice A0_3 l0_3.length c0_3) := (blk_cell BK179.out 3).trans rfl; have hfz26_0 := blk_frozen BK179.out 0; have hfz26_1 := blk_frozen BK179.out 1; have hfz26_2 := blk_frozen BK179.out 2; have hfz26_3 := blk_frozen BK179.out 3; have hcz27_0 : w24.cell? ⟨gb180, 0, none⟩ = some (.int .i64 a1_0) := (blk_cell BK180.out 0).trans rfl; have hcz27_1 : w24.cell? ⟨gb180, 1, none⟩ = some (.string a1_1) := (blk_cell BK180.out 1).trans rfl; have hcz27_2 : w24.cell? ⟨gb180, 2, none⟩ = some (.slice A1_2 l1_2.length c1_2) := (blk_cell BK180.out 2).trans rfl; have hcz27_3 : w24.cell? ⟨gb180, 3, none⟩ = some (.slice A1_3 l1_3.length c1_3) := (blk_cell BK180.out 3).trans rfl; have hfz27_0 := blk_frozen BK180.out 0; have hfz27_1 := blk_frozen BK180.out 1; have hfz27_2 := blk_frozen BK180.out 2; have hfz27_3 := blk_frozen BK180.out 3))
      go_ret
      exact ⟨by first | rfl | (simp [errW_none, errW_some] <;> rfl) | (simp [*, errW_none, errW_some] <;> rfl), by repeat (first | (with_reducible first | exact HB.out | apply below_alloc | apply pw_below_drewN | apply below_drew1 | refine below_set ?_ GE179.out | refine below_set ?_ GE180.out) | exact HB.out)⟩
  · rw [if_neg c3] at H
    have c3b0 : (a0_0 == a1_0) = false := beq_eq_false_iff_ne.mpr c3
    have c3b1 : (a0_0 != a1_0) = true := bne_iff_ne.mpr c3
    obtain rfl := Option.some.inj H
    go_enter Tryd.func25, Tryd.ntmps25
    go_wp2_with (first | ((with_reducible refine gate_dst (N := 2) rfl ?_); refine box_event ?hg (N := 2) ?hd (cs := #[.int .i64 a0_0, .string a0_1, .slice A0_2 l0_2.length c0_2, .slice A0_3 l0_3.length c0_3]) (t := 25) ?hr ?_; (case hd => rfl); (case hg => rfl); (case hr => first | (go_simp; done) | (go_simp; rfl)); intro gb179 hg w28 hbox hb; have n0_ := Aside0.mk (below_step (by repeat (first | (with_reducible first | exact HB.out | apply below_alloc | apply pw_below_drewN | apply below_drew1) | exact HB.out)) hb); have n1_ := Aside0.mk (hbox); have n2_ := Aside0.mk ((by rw [hg]; exact (below_size (by repeat (first | (with_reducible first | exact HB.out | apply below_alloc | apply pw_below_drewN | apply below_drew1) | exact HB.out))) : w.heap.size ≤ gb179)); have n3_ := Aside0.mk ((by rw [hg]; exact (below_size (by repeat (first | (with_reducible first | exact HB.out | apply below_alloc | apply pw_below_drewN | apply below_drew1) | exact HB.out))) : w.heap.size ≤ gb179)); clear HB; have HB := n0_; have BK179 := n1_; have GW179 := n2_; have GE179 := n3_; clear n0_ n1_ n2_ n3_; clear hb hbox hg) | ((with_reducible refine gate_dst (N := 3) rfl ?_); refine box_event ?hg (N := 3) ?hd (cs := #[.int .i64 a1_0, .string a1_1, .slice A1_2 l1_2.length c1_2, .slice A1_3 l1_3.length c1_3]) (t := 25) ?hr ?_; (case hd => rfl); (case hg => rfl); (case hr => first | (go_simp; done) | (go_simp; rfl)); intro gb180 hg w29 hbox hb; have n0_ := Aside0.mk (blk_below (g := gb179) (o := .cells #[.int .i64 a0_0, .string a0_1, .slice A0_2 l0_2.length c0_2, .slice A0_3 l0_3.length c0_3] 25 (0, 0)) (by (with_reducible repeat (first | refine blk_drewN ?_ _ | refine blk_drew ?_ | refine blk_alloc ?_ _)); exact BK179.out) hb); have n1_ := Aside0.mk (below_step (by repeat (first | (with_reducible first | exact HB.out | apply below_alloc | apply pw_below_drewN | apply below_drew1 | refine below_set ?_ GE179.out) | exact HB.out)) hb); have n2_ := Aside0.mk (hbox); have n3_ := Aside0.mk ((by rw [hg]; exact (below_size (by repeat (first | (with_reducible first | exact HB.out | apply below_alloc | apply pw_below_drewN | apply below_drew1 | refine below_set ?_ GE179.out) | exact HB.out))) : w.heap.size ≤ gb180)); have n4_ := Aside0.mk ((by rw [hg]; exact (below_size (by repeat (first | (with_reducible first | exact HB.out | apply below_alloc | apply pw_below_drewN | apply below_drew1 | refine below_set ?_ GE179.out) | exact HB.out))) : w.heap.size ≤ gb180)); have n5_ := Aside0.mk ((by rw [hg]; exact Nat.ne_of_lt (blk_lt (g := gb179) (o := .cells #[.int .i64 a0_0, .string a0_1, .slice A0_2 l0_2.length c0_2, .slice A0_3 l0_3.length c0_3] 25 (0, 0)) (by (with_reducible repeat (first | refine blk_drewN ?_ _ | refine blk_drew ?_ | refine blk_alloc ?_ _)); exact BK179.out)) : gb179 ≠ gb180)); have n6_ := Aside0.mk ((by rw [hg]; exact Nat.ne_of_gt (blk_lt (g := gb179) (o := .cells #[.int .i64 a0_0, .string a0_1, .slice A0_2 l0_2.length c0_2, .slice A0_3 l0_3.length c0_3] 25 (0, 0)) (by (with_reducible repeat (first | refine blk_drewN ?_ _ | refine blk_drew ?_ | refine blk_alloc ?_ _)); exact BK179.out)) : gb180 ≠ gb179)); clear BK179; clear HB; have BK179 := n0_; have HB := n1_; have BK180 := n2_; have GW180 := n3_; have GE180 := n4_; have NB179_180 := n5_; have NB180_179 := n6_; clear n0_ n1_ n2_ n3_ n4_ n5_ n6_; clear hb hbox hg; have hnb30 := NB179_180.out; have hnc30 := NB180_179.out; have hcz31_0 : w29.cell? ⟨gb179, 0, none⟩ = some (.int .i64 a0_0) := (blk_cell BK179.out 0).trans rfl; have hcz31_1 : w29.cell? ⟨gb179, 1, none⟩ = some (.string a0_1) := (blk_cell BK179.out 1).trans rfl; have hcz31_2 : w29.cell? ⟨gb179, 2, none⟩ = some (.slice A0_2 l0_2.length c0_2) := (blk_cell BK179.out 2).trans rfl; have hcz31_3 : w29.cell? ⟨gb179, 3, none⟩ = some (.slice A0_3 l0_3.length c0_3) := (blk_cell BK179.out 3).trans rfl; have hfz31_0 := blk_frozen BK179.out 0; have hfz31_1 := blk_frozen BK179.out 1; have hfz31_2 := blk_frozen BK179.out 2; have hfz31_3 := blk_frozen BK179.out 3; have hcz32_0 : w29.cell? ⟨gb180, 0, none⟩ = some (.int .i64 a1_0) := (blk_cell BK180.out 0).trans rfl; have hcz32_1 : w29.cell? ⟨gb180, 1, none⟩ = some (.string a1_1) := (blk_cell BK180.out 1).trans rfl; have hcz32_2 : w29.cell? ⟨gb180, 2, none⟩ = some (.slice A1_2 l1_2.length c1_2) := (blk_cell BK180.out 2).trans rfl; have hcz32_3 : w29.cell? ⟨gb180, 3, none⟩ = some (.slice A1_3 l1_3.length c1_3) := (blk_cell BK180.out 3).trans rfl; have hfz32_0 := blk_frozen BK180.out 0; have hfz32_1 := blk_frozen BK180.out 1; have hfz32_2 := blk_frozen BK180.out 2; have hfz32_3 := blk_frozen BK180.out 3))
    go_ret
    exact ⟨by first | rfl | (simp [errW_none, errW_some] <;> rfl) | (simp [*, errW_none, errW_some] <;> rfl), by repeat (first | (with_reducible first | exact HB.out | apply below_alloc | apply pw_below_drewN | apply below_drew1 | refine below_set ?_ GE179.out | refine below_set ?_ GE180.out) | exact HB.out)⟩
def switchyardref13_SameDead.f (k : Nat) (a0_0 : Int) (a0_1 : Int) (a0_2 : ByteArray) (l0_3 : List (S37)) (l0_4 : List (S37)) (a0_5 : Int) (a1_0 : Int) (a1_1 : Int) (a1_2 : ByteArray) (l1_3 : List (S37)) (l1_4 : List (S37)) (a1_5 : Int) : Option (Bool) := if a0_0 = a1_0 then (if a0_5 = a1_5 then ((switchyardref13_SameMail.f k a0_1 a0_2 l0_3 l0_4 a1_1 a1_2 l1_3 l1_4).bind fun t185 => (some t185)) else (some false)) else (some false)
set_option maxHeartbeats 600000 in
set_option maxRecDepth 100000 in
theorem switchyardref13_SameDead.calls (k : Nat) (a0_0 : Int) (a0_1 : Int) (a0_2 : ByteArray) (A0_3 : Option Addr) (c0_3 : Nat) (l0_3 : List (S37)) (A0_4 : Option Addr) (c0_4 : Nat) (l0_4 : List (S37)) (a0_5 : Int) (a1_0 : Int) (a1_1 : Int) (a1_2 : ByteArray) (A1_3 : Option Addr) (c1_3 : Nat) (l1_3 : List (S37)) (A1_4 : Option Addr) (c1_4 : Nat) (l1_4 : List (S37)) (a1_5 : Int) (r : Bool) (w : World) (hr0_3 : Kd.C k37 w A0_3 l0_3.length l0_3) (hc0_3 : l0_3.length ≤ c0_3) (hr0_4 : Kd.C k37 w A0_4 l0_4.length l0_4) (hc0_4 : l0_4.length ≤ c0_4) (hr1_3 : Kd.C k37 w A1_3 l1_3.length l1_3) (hc1_3 : l1_3.length ≤ c1_3) (hr1_4 : Kd.C k37 w A1_4 l1_4.length l1_4) (hc1_4 : l1_4.length ≤ c1_4) (h : switchyardref13_SameDead.f k a0_0 a0_1 a0_2 l0_3 l0_4 a0_5 a1_0 a1_1 a1_2 l1_3 l1_4 a1_5 = some r) :
    Calls Tryd.prog 18 #[.agg #[.int .i64 a0_0, .int .i64 a0_1, .string a0_2, .slice A0_3 l0_3.length c0_3, .slice A0_4 l0_4.length c0_4, .int .i64 a0_5], .agg #[.int .i64 a1_0, .int .i64 a1_1, .string a1_2, .slice A1_3 l1_3.length c1_3, .slice A1_4 l1_4.length c1_4, .int .i64 a1_5]] w fun e w' => e = .returned (.bool r) ∧ Below w.heap.size w w' := by
  have hu27 := Tryd.underlying27
  have hu25 := Tryd.underlying25
  have HR0_3 := Aside0.mk hr0_3
  have HC0_3 := Aside0.mk hc0_3
  clear hr0_3 hc0_3
  have HR0_4 := Aside0.mk hr0_4
  have HC0_4 := Aside0.mk hc0_4
  clear hr0_4 hc0_4
  have HR1_3 := Aside0.mk hr1_3
  have HC1_3 := Aside0.mk hc1_3
  clear hr1_3 hc1_3
  have HR1_4 := Aside0.mk hr1_4
  have HC1_4 := Aside0.mk hc1_4
  clear hr1_4 hc1_4
  have HB := Aside0.mk (Below.refl w.heap.size w)
  have H : (if a0_0 = a1_0 then (if a0_5 = a1_5 then ((switchyardref13_SameMail.f k a0_1 a0_2 l0_3 l0_4 a1_1 a1_2 l1_3 l1_4).bind fun t185 => (some t185)) else (some false)) else (some false)) = some r := h
  clear h
  by_cases c3 : a0_0 = a1_0
  · rw [if_pos c3] at H
    have c3b0 : (a0_0 == a1_0) = true := beq_iff_eq.mpr c3
    have c3b1 : (a0_0 != a1_0) = false := bne_eq_false_iff_eq.mpr c3
    clear c3
    by_cases c4 : a0_5 = a1_5
    · rw [if_pos c4] at H
      have c4b0 : (a0_5 == a1_5) = true := beq_iff_eq.mpr c4
      have c4b1 : (a0_5 != a1_5) = false := bne_eq_false_iff_eq.mpr c4
      clear c4
      replace H := Option.bind_eq_some_iff.mp H
      obtain ⟨t185, A50, H⟩ := H
      replace H : (some t185) = some r := H
      have A5 := Aside0.mk A50
      clear A50
      obtain rfl := Option.some.inj H
      go_enter Tryd.func18, Tryd.ntmps18
      go_wp2_with (first | ((with_reducible refine gate_dst (N := 2) rfl ?_); refine box_event ?hg (N := 2) ?hd (cs := #[.int .i64 a0_0, .int .i64 a0_1, .string a0_2, .slice A0_3 l0_3.length c0_3, .slice A0_4 l0_4.length c0_4, .int .i64 a0_5]) (t := 27) ?hr ?_; (case hd => rfl); (case hg => rfl); (case hr => first | (go_simp; done) | (go_simp; rfl)); intro gb183 hg w6 hbox hb; have n0_ := Aside0.mk (below_step (by repeat (first | (with_reducible first | exact HB.out | apply below_alloc | apply pw_below_drewN | apply below_drew1) | exact HB.out)) hb); have n1_ := Aside0.mk (hbox); have n2_ := Aside0.mk ((by rw [hg]; exact (below_size (by repeat (first | (with_reducible first | exact HB.out | apply below_alloc | apply pw_below_drewN | apply below_drew1) | exact HB.out))) : w.heap.size ≤ gb183)); have n3_ := Aside0.mk ((by rw [hg]; exact (below_size (by repeat (first | (with_reducible first | exact HB.out | apply below_alloc | apply pw_below_drewN | apply below_drew1) | exact HB.out))) : w.heap.size ≤ gb183)); clear HB; have HB := n0_; have BK183 := n1_; have GW183 := n2_; have GE183 := n3_; clear n0_ n1_ n2_ n3_; clear hb hbox hg) | ((with_reducible refine gate_dst (N := 3) rfl ?_); refine box_event ?hg (N := 3) ?hd (cs := #[.int .i64 a1_0, .int .i64 a1_1, .string a1_2, .slice A1_3 l1_3.length c1_3, .slice A1_4 l1_4.length c1_4, .int .i64 a1_5]) (t := 27) ?hr ?_; (case hd => rfl); (case hg => rfl); (case hr => first | (go_simp; done) | (go_simp; rfl)); intro gb184 hg w7 hbox hb; have n0_ := Aside0.mk (blk_below (g := gb183) (o := .cells #[.int .i64 a0_0, .int .i64 a0_1, .string a0_2, .slice A0_3 l0_3.length c0_3, .slice A0_4 l0_4.length c0_4, .int .i64 a0_5] 27 (0, 0)) (by (with_reducible repeat (first | refine blk_drewN ?_ _ | refine blk_drew ?_ | refine blk_alloc ?_ _)); exact BK183.out) hb); have n1_ := Aside0.mk (below_step (by repeat (first | (with_reducible first | exact HB.out | apply below_alloc | apply pw_below_drewN | apply below_drew1 | refine below_set ?_ GE183.out) | exact HB.out)) hb); have n2_ := Aside0.mk (hbox); have n3_ := Aside0.mk ((by rw [hg]; exact (below_size (by repeat (first | (with_reducible first | exact HB.out | apply below_alloc | apply pw_below_drewN | apply below_drew1 | refine below_set ?_ GE183.out) | exact HB.out))) : w.heap.size ≤ gb184)); have n4_ := Aside0.mk ((by rw [hg]; exact (below_size (by repeat (first | (with_reducible first | exact HB.out | apply below_alloc | apply pw_below_drewN | apply below_drew1 | refine below_set ?_ GE183.out) | exact HB.out))) : w.heap.size ≤ gb184)); have n5_ := Aside0.mk ((by rw [hg]; exact Nat.ne_of_lt (blk_lt (g := gb183) (o := .cells #[.int .i64 a0_0, .int .i64 a0_1, .string a0_2, .slice A0_3 l0_3.length c0_3, .slice A0_4 l0_4.length c0_4, .int .i64 a0_5] 27 (0, 0)) (by (with_reducible repeat (first | refine blk_drewN ?_ _ | refine blk_drew ?_ | refine blk_alloc ?_ _)); exact BK183.out)) : gb183 ≠ gb184)); have n6_ := Aside0.mk ((by rw [hg]; exact Nat.ne_of_gt (blk_lt (g := gb183) (o := .cells #[.int .i64 a0_0, .int .i64 a0_1, .string a0_2, .slice A0_3 l0_3.length c0_3, .slice A0_4 l0_4.length c0_4, .int .i64 a0_5] 27 (0, 0)) (by (with_reducible repeat (first | refine blk_drewN ?_ _ | refine blk_drew ?_ | refine blk_alloc ?_ _)); exact BK183.out)) : gb184 ≠ gb183)); clear BK183; clear HB; have BK183 := n0_; have HB := n1_; have BK184 := n2_; have GW184 := n3_; have GE184 := n4_; have NB183_184 := n5_; have NB184_183 := n6_; clear n0_ n1_ n2_ n3_ n4_ n5_ n6_; clear hb hbox hg; have hnb8 := NB183_184.out; have hnc8 := NB184_183.out; have hcz9_0 : w7.cell? ⟨gb183, 0, none⟩ = some (.int .i64 a0_0) := (blk_cell BK183.out 0).trans rfl; have hcz9_1 : w7.cell? ⟨gb183, 1, none⟩ = some (.int .i64 a0_1) := (blk_cell BK183.out 1).trans rfl; have hcz9_2 : w7.cell? ⟨gb183, 2, none⟩ = some (.string a0_2) := (blk_cell BK183.out 2).trans rfl; have hcz9_3 : w7.cell? ⟨gb183, 3, none⟩ = some (.slice A0_3 l0_3.length c0_3) := (blk_cell BK183.out 3).trans rfl; have hcz9_4 : w7.cell? ⟨gb183, 4, none⟩ = some (.slice A0_4 l0_4.length c0_4) := (blk_cell BK183.out 4).trans rfl; have hcz9_5 : w7.cell? ⟨gb183, 5, none⟩ = some (.int .i64 a0_5) := (blk_cell BK183.out 5).trans rfl; have hfz9_0 := blk_frozen BK183.out 0; have hfz9_1 := blk_frozen BK183.out 1; have hfz9_2 := blk_frozen BK183.out 2; have hfz9_3 := blk_frozen BK183.out 3; have hfz9_4 := blk_frozen BK183.out 4; have hfz9_5 := blk_frozen BK183.out 5; have hcz10_0 : w7.cell? ⟨gb184, 0, none⟩ = some (.int .i64 a1_0) := (blk_cell BK184.out 0).trans rfl; have hcz10_1 : w7.cell? ⟨gb184, 1, none⟩ = some (.int .i64 a1_1) := (blk_cell BK184.out 1).trans rfl; have hcz10_2 : w7.cell? ⟨gb184, 2, none⟩ = some (.string a1_2) := (blk_cell BK184.out 2).trans rfl; have hcz10_3 : w7.cell? ⟨gb184, 3, none⟩ = some (.slice A1_3 l1_3.length c1_3) := (blk_cell BK184.out 3).trans rfl; have hcz10_4 : w7.cell? ⟨gb184, 4, none⟩ = some (.slice A1_4 l1_4.length c1_4) := (blk_cell BK184.out 4).trans rfl; have hcz10_5 : w7.cell? ⟨gb184, 5, none⟩ = some (.int .i64 a1_5) := (blk_cell BK184.out 5).trans rfl; have hfz10_0 := blk_frozen BK184.out 0; have hfz10_1 := blk_frozen BK184.out 1; have hfz10_2 := blk_frozen BK184.out 2; have hfz10_3 := blk_frozen BK184.out 3; have hfz10_4 := blk_frozen BK184.out 4; have hfz10_5 := blk_frozen BK184.out 5) | (go_at_call 25; refine calls_of_args (args' := #[.agg #[.int .i64 a0_1, .string a0_2, .slice A0_3 l0_3.length c0_3, .slice A0_4 l0_4.length c0_4], .agg #[.int .i64 a1_1, .string a1_2, .slice A1_3 l1_3.length c1_3, .slice A1_4 l1_4.length c1_4]]) (by first | rfl) ?_; (with_reducible refine (switchyardref13_SameMail.calls k a0_1 a0_2 _ _ l0_3 _ _ l0_4 a1_1 a1_2 _ _ l1_3 _ _ l1_4 t185 _ ?side1 ?side2 ?side3 ?side4 ?side5 ?side6 ?side7 ?side8 A5.out).mono ?_); (case side1 => repeat (first | exact (Kd.C_below HR0_3.out HB.out) | (with_reducible refine Kd.C_alloc ?_ _) | (with_reducible refine Kd.C_drewN ?_ _) | (with_reducible refine Kd.C_drew ?_))); (case side2 => exact HC0_3.out); (case side3 => repeat (first | exact (Kd.C_below HR0_4.out HB.out) | (with_reducible refine Kd.C_alloc ?_ _) | (with_reducible refine Kd.C_drewN ?_ _) | (with_reducible refine Kd.C_drew ?_))); (case side4 => exact HC0_4.out); (case side5 => repeat (first | exact (Kd.C_below HR1_3.out HB.out) | (with_reducible refine Kd.C_alloc ?_ _) | (with_reducible refine Kd.C_drewN ?_ _) | (with_reducible refine Kd.C_drew ?_))); (case side6 => exact HC1_3.out); (case side7 => repeat (first | exact (Kd.C_below HR1_4.out HB.out) | (with_reducible refine Kd.C_alloc ?_ _) | (with_reducible refine Kd.C_drewN ?_ _) | (with_reducible refine Kd.C_drew ?_))); (case side8 => exact HC1_4.out); rintro e w11 ⟨rfl, hb⟩; have n0_ := Aside0.mk (blk_below (g := gb183) (o := .cells #[.int .i64 a0_0, .int .i64 a0_1, .string a0_2, .slice A0_3 l0_3.length c0_3, .slice A0_4 l0_4.length c0_4, .int .i64 a0_5] 27 (0, 0)) (by (with_reducible repeat (first | refine blk_drewN ?_ _ | refine blk_drew ?_ | refine blk_alloc ?_ _)); exact BK183.out) hb); have n1_ := Aside0.mk (blk_below (g := gb184) (o := .cells #[.int .i64 a1_0, .int .i64 a1_1, .string a1_2, .slice A1_3 l1_3.length c1_3, .slice A1_4 l1_4.length c1_4, .int .i64 a1_5] 27 (0, 0)) (by (with_reducible repeat (first | refine blk_drewN ?_ _ | refine blk_drew ?_ | refine blk_alloc ?_ _)); exact BK184.out) hb); have n2_ := Aside0.mk (below_step (by repeat (first | (with_reducible first | exact HB.out | apply below_alloc | apply pw_below_drewN | apply below_drew1 | refine below_set ?_ GE183.out | refine below_set ?_ GE184.out) | exact HB.out)) hb); clear BK183; clear BK184; clear HB; have BK183 := n0_; have BK184 := n1_; have HB := n2_; clear n0_ n1_ n2_; (try clear hb); (try clear hb2); (try clear hk); (try clear hi)))
      go_ret
      exact ⟨by first | rfl | (simp [errW_none, errW_some] <;> rfl) | (simp [*, errW_none, errW_some] <;> rfl), by repeat (first | (with_reducible first | exact HB.out | apply below_alloc | apply pw_below_drewN | apply below_drew1 | refine below_set ?_ GE183.out | refine below_set ?_ GE184.out) | exact HB.out)⟩
    · rw [if_neg c4] at H
      have c4b0 : (a0_5 == a1_5) = false := beq_eq_false_iff_ne.mpr c4
      have c4b1 : (a0_5 != a1_5) = true := bne_iff_ne.mpr c4
      obtain rfl := Option.some.inj H
      go_enter Tryd.func18, Tryd.ntmps18
      go_wp2_with (first | ((with_reducible refine gate_dst (N := 2) rfl ?_); refine box_event ?hg (N := 2) ?hd (cs := #[.int .i64 a0_0, .int .i64 a0_1, .string a0_2, .slice A0_3 l0_3.length c0_3, .slice A0_4 l0_4.length c0_4, .int .i64 a0_5]) (t := 27) ?hr ?_; (case hd => rfl); (case hg => rfl); (case hr => first | (go_simp; done) | (go_simp; rfl)); intro gb183 hg w12 hbox hb; have n0_ := Aside0.mk (below_step (by repeat (first | (with_reducible first | exact HB.out | apply below_alloc | apply pw_below_drewN | apply below_drew1) | exact HB.out)) hb); have n1_ := Aside0.mk (hbox); have n2_ := Aside0.mk ((by rw [hg]; exact (below_size (by repeat (first | (with_reducible first | exact HB.out | apply below_alloc | apply pw_below_drewN | apply below_drew1) | exact HB.out))) : w.heap.size ≤ gb183)); have n3_ := Aside0.mk ((by rw [hg]; exact (below_size (by repeat (first | (with_reducible first | exact HB.out | apply below_alloc | apply pw_below_drewN | apply below_drew1) | exact HB.out))) : w.heap.size ≤ gb183)); clear HB; have HB := n0_; have BK183 := n1_; have GW183 := n2_; have GE183 := n3_; clear n0_ n1_ n2_ n3_; clear hb hbox hg) | ((with_reducible refine gate_dst (N := 3) rfl ?_); refine box_event ?hg (N := 3) ?hd (cs := #[.int .i64 a1_0, .int .i64 a1_1, .string a1_2, .slice A1_3 l1_3.length c1_3, .slice A1_4 l1_4.length c1_4, .int .i64 a1_5]) (t := 27) ?hr ?_; (case hd => rfl); (case hg => rfl); (case hr => first | (go_simp; done) | (go_simp; rfl)); intro gb184 hg w13 hbox hb; have n0_ := Aside0.mk (blk_below (g := gb183) (o := .cells #[.int .i64 a0_0, .int .i64 a0_1, .string a0_2, .slice A0_3 l0_3.length c0_3, .slice A0_4 l0_4.length c0_4, .int .i64 a0_5] 27 (0, 0)) (by (with_reducible repeat (first | refine blk_drewN ?_ _ | refine blk_drew ?_ | refine blk_alloc ?_ _)); exact BK183.out) hb); have n1_ := Aside0.mk (below_step (by repeat (first | (with_reducible first | exact HB.out | apply below_alloc | apply pw_below_drewN | apply below_drew1 | refine below_set ?_ GE183.out) | exact HB.out)) hb); have n2_ := Aside0.mk (hbox); have n3_ := Aside0.mk ((by rw [hg]; exact (below_size (by repeat (first | (with_reducible first | exact HB.out | apply below_alloc | apply pw_below_drewN | apply below_drew1 | refine below_set ?_ GE183.out) | exact HB.out))) : w.heap.size ≤ gb184)); have n4_ := Aside0.mk ((by rw [hg]; exact (below_size (by repeat (first | (with_reducible first | exact HB.out | apply below_alloc | apply pw_below_drewN | apply below_drew1 | refine below_set ?_ GE183.out) | exact HB.out))) : w.heap.size ≤ gb184)); have n5_ := Aside0.mk ((by rw [hg]; exact Nat.ne_of_lt (blk_lt (g := gb183) (o := .cells #[.int .i64 a0_0, .int .i64 a0_1, .string a0_2, .slice A0_3 l0_3.length c0_3, .slice A0_4 l0_4.length c0_4, .int .i64 a0_5] 27 (0, 0)) (by (with_reducible repeat (first | refine blk_drewN ?_ _ | refine blk_drew ?_ | refine blk_alloc ?_ _)); exact BK183.out)) : gb183 ≠ gb184)); have n6_ := Aside0.mk ((by rw [hg]; exact Nat.ne_of_gt (blk_lt (g := gb183) (o := .cells #[.int .i64 a0_0, .int .i64 a0_1, .string a0_2, .slice A0_3 l0_3.length c0_3, .slice A0_4 l0_4.length c0_4, .int .i64 a0_5] 27 (0, 0)) (by (with_reducible repeat (first | refine blk_drewN ?_ _ | refine blk_drew ?_ | refine blk_alloc ?_ _)); exact BK183.out)) : gb184 ≠ gb183)); clear BK183; clear HB; have BK183 := n0_; have HB := n1_; have BK184 := n2_; have GW184 := n3_; have GE184 := n4_; have NB183_184 := n5_; have NB184_183 := n6_; clear n0_ n1_ n2_ n3_ n4_ n5_ n6_; clear hb hbox hg; have hnb14 := NB183_184.out; have hnc14 := NB184_183.out; have hcz15_0 : w13.cell? ⟨gb183, 0, none⟩ = some (.int .i64 a0_0) := (blk_cell BK183.out 0).trans rfl; have hcz15_1 : w13.cell? ⟨gb183, 1, none⟩ = some (.int .i64 a0_1) := (blk_cell BK183.out 1).trans rfl; have hcz15_2 : w13.cell? ⟨gb183, 2, none⟩ = some (.string a0_2) := (blk_cell BK183.out 2).trans rfl; have hcz15_3 : w13.cell? ⟨gb183, 3, none⟩ = some (.slice A0_3 l0_3.length c0_3) := (blk_cell BK183.out 3).trans rfl; have hcz15_4 : w13.cell? ⟨gb183, 4, none⟩ = some (.slice A0_4 l0_4.length c0_4) := (blk_cell BK183.out 4).trans rfl; have hcz15_5 : w13.cell? ⟨gb183, 5, none⟩ = some (.int .i64 a0_5) := (blk_cell BK183.out 5).trans rfl; have hfz15_0 := blk_frozen BK183.out 0; have hfz15_1 := blk_frozen BK183.out 1; have hfz15_2 := blk_frozen BK183.out 2; have hfz15_3 := blk_frozen BK183.out 3; have hfz15_4 := blk_frozen BK183.out 4; have hfz15_5 := blk_frozen BK183.out 5; have hcz16_0 : w13.cell? ⟨gb184, 0, none⟩ = some (.int .i64 a1_0) := (blk_cell BK184.out 0).trans rfl; have hcz16_1 : w13.cell? ⟨gb184, 1, none⟩ = some (.int .i64 a1_1) := (blk_cell BK184.out 1).trans rfl; have hcz16_2 : w13.cell? ⟨gb184, 2, none⟩ = some (.string a1_2) := (blk_cell BK184.out 2).trans rfl; have hcz16_3 : w13.cell? ⟨gb184, 3, none⟩ = some (.slice A1_3 l1_3.length c1_3) := (blk_cell BK184.out 3).trans rfl; have hcz16_4 : w13.cell? ⟨gb184, 4, none⟩ = some (.slice A1_4 l1_4.length c1_4) := (blk_cell BK184.out 4).trans rfl; have hcz16_5 : w13.cell? ⟨gb184, 5, none⟩ = some (.int .i64 a1_5) := (blk_cell BK184.out 5).trans rfl; have hfz16_0 := blk_frozen BK184.out 0; have hfz16_1 := blk_frozen BK184.out 1; have hfz16_2 := blk_frozen BK184.out 2; have hfz16_3 := blk_frozen BK184.out 3; have hfz16_4 := blk_frozen BK184.out 4; have hfz16_5 := blk_frozen BK184.out 5))
      go_ret
      exact ⟨by first | rfl | (simp [errW_none, errW_some] <;> rfl) | (simp [*, errW_none, errW_some] <;> rfl), by repeat (first | (with_reducible first | exact HB.out | apply below_alloc | apply pw_below_drewN | apply below_drew1 | refine below_set ?_ GE183.out | refine below_set ?_ GE184.out) | exact HB.out)⟩
  · rw [if_neg c3] at H
    have c3b0 : (a0_0 == a1_0) = false := beq_eq_false_iff_ne.mpr c3
    have c3b1 : (a0_0 != a1_0) = true := bne_iff_ne.mpr c3
    obtain rfl := Option.some.inj H
    go_enter Tryd.func18, Tryd.ntmps18
    go_wp2_with (first | ((with_reducible refine gate_dst (N := 2) rfl ?_); refine box_event ?hg (N := 2) ?hd (cs := #[.int .i64 a0_0, .int .i64 a0_1, .string a0_2, .slice A0_3 l0_3.length c0_3, .slice A0_4 l0_4.length c0_4, .int .i64 a0_5]) (t := 27) ?hr ?_; (case hd => rfl); (case hg => rfl); (case hr => first | (go_simp; done) | (go_simp; rfl)); intro gb183 hg w17 hbox hb; have n0_ := Aside0.mk (below_step (by repeat (first | (with_reducible first | exact HB.out | apply below_alloc | apply pw_below_drewN | apply below_drew1) | exact HB.out)) hb); have n1_ := Aside0.mk (hbox); have n2_ := Aside0.mk ((by rw [hg]; exact (below_size (by repeat (first | (with_reducible first | exact HB.out | apply below_alloc | apply pw_below_drewN | apply below_drew1) | exact HB.out))) : w.heap.size ≤ gb183)); have n3_ := Aside0.mk ((by rw [hg]; exact (below_size (by repeat (first | (with_reducible first | exact HB.out | apply below_alloc | apply pw_below_drewN | apply below_drew1) | exact HB.out))) : w.heap.size ≤ gb183)); clear HB; have HB := n0_; have BK183 := n1_; have GW183 := n2_; have GE183 := n3_; clear n0_ n1_ n2_ n3_; clear hb hbox hg) | ((with_reducible refine gate_dst (N := 3) rfl ?_); refine box_event ?hg (N := 3) ?hd (cs := #[.int .i64 a1_0, .int .i64 a1_1, .string a1_2, .slice A1_3 l1_3.length c1_3, .slice A1_4 l1_4.length c1_4, .int .i64 a1_5]) (t := 27) ?hr ?_; (case hd => rfl); (case hg => rfl); (case hr => first | (go_simp; done) | (go_simp; rfl)); intro gb184 hg w18 hbox hb; have n0_ := Aside0.mk (blk_below (g := gb183) (o := .cells #[.int .i64 a0_0, .int .i64 a0_1, .string a0_2, .slice A0_3 l0_3.length c0_3, .slice A0_4 l0_4.length c0_4, .int .i64 a0_5] 27 (0, 0)) (by (with_reducible repeat (first | refine blk_drewN ?_ _ | refine blk_drew ?_ | refine blk_alloc ?_ _)); exact BK183.out) hb); have n1_ := Aside0.mk (below_step (by repeat (first | (with_reducible first | exact HB.out | apply below_alloc | apply pw_below_drewN | apply below_drew1 | refine below_set ?_ GE183.out) | exact HB.out)) hb); have n2_ := Aside0.mk (hbox); have n3_ := Aside0.mk ((by rw [hg]; exact (below_size (by repeat (first | (with_reducible first | exact HB.out | apply below_alloc | apply pw_below_drewN | apply below_drew1 | refine below_set ?_ GE183.out) | exact HB.out))) : w.heap.size ≤ gb184)); have n4_ := Aside0.mk ((by rw [hg]; exact (below_size (by repeat (first | (with_reducible first | exact HB.out | apply below_alloc | apply pw_below_drewN | apply below_drew1 | refine below_set ?_ GE183.out) | exact HB.out))) : w.heap.size ≤ gb184)); have n5_ := Aside0.mk ((by rw [hg]; exact Nat.ne_of_lt (blk_lt (g := gb183) (o := .cells #[.int .i64 a0_0, .int .i64 a0_1, .string a0_2, .slice A0_3 l0_3.length c0_3, .slice A0_4 l0_4.length c0_4, .int .i64 a0_5] 27 (0, 0)) (by (with_reducible repeat (first | refine blk_drewN ?_ _ | refine blk_drew ?_ | refine blk_alloc ?_ _)); exact BK183.out)) : gb183 ≠ gb184)); have n6_ := Aside0.mk ((by rw [hg]; exact Nat.ne_of_gt (blk_lt (g := gb183) (o := .cells #[.int .i64 a0_0, .int .i64 a0_1, .string a0_2, .slice A0_3 l0_3.length c0_3, .slice A0_4 l0_4.length c0_4, .int .i64 a0_5] 27 (0, 0)) (by (with_reducible repeat (first | refine blk_drewN ?_ _ | refine blk_drew ?_ | refine blk_alloc ?_ _)); exact BK183.out)) : gb184 ≠ gb183)); clear BK183; clear HB; have BK183 := n0_; have HB := n1_; have BK184 := n2_; have GW184 := n3_; have GE184 := n4_; have NB183_184 := n5_; have NB184_183 := n6_; clear n0_ n1_ n2_ n3_ n4_ n5_ n6_; clear hb hbox hg; have hnb19 := NB183_184.out; have hnc19 := NB184_183.out; have hcz20_0 : w18.cell? ⟨gb183, 0, none⟩ = some (.int .i64 a0_0) := (blk_cell BK183.out 0).trans rfl; have hcz20_1 : w18.cell? ⟨gb183, 1, none⟩ = some (.int .i64 a0_1) := (blk_cell BK183.out 1).trans rfl; have hcz20_2 : w18.cell? ⟨gb183, 2, none⟩ = some (.string a0_2) := (blk_cell BK183.out 2).trans rfl; have hcz20_3 : w18.cell? ⟨gb183, 3, none⟩ = some (.slice A0_3 l0_3.length c0_3) := (blk_cell BK183.out 3).trans rfl; have hcz20_4 : w18.cell? ⟨gb183, 4, none⟩ = some (.slice A0_4 l0_4.length c0_4) := (blk_cell BK183.out 4).trans rfl; have hcz20_5 : w18.cell? ⟨gb183, 5, none⟩ = some (.int .i64 a0_5) := (blk_cell BK183.out 5).trans rfl; have hfz20_0 := blk_frozen BK183.out 0; have hfz20_1 := blk_frozen BK183.out 1; have hfz20_2 := blk_frozen BK183.out 2; have hfz20_3 := blk_frozen BK183.out 3; have hfz20_4 := blk_frozen BK183.out 4; have hfz20_5 := blk_frozen BK183.out 5; have hcz21_0 : w18.cell? ⟨gb184, 0, none⟩ = some (.int .i64 a1_0) := (blk_cell BK184.out 0).trans rfl; have hcz21_1 : w18.cell? ⟨gb184, 1, none⟩ = some (.int .i64 a1_1) := (blk_cell BK184.out 1).trans rfl; have hcz21_2 : w18.cell? ⟨gb184, 2, none⟩ = some (.string a1_2) := (blk_cell BK184.out 2).trans rfl; have hcz21_3 : w18.cell? ⟨gb184, 3, none⟩ = some (.slice A1_3 l1_3.length c1_3) := (blk_cell BK184.out 3).trans rfl; have hcz21_4 : w18.cell? ⟨gb184, 4, none⟩ = some (.slice A1_4 l1_4.length c1_4) := (blk_cell BK184.out 4).trans rfl; have hcz21_5 : w18.cell? ⟨gb184, 5, none⟩ = some (.int .i64 a1_5) := (blk_cell BK184.out 5).trans rfl; have hfz21_0 := blk_frozen BK184.out 0; have hfz21_1 := blk_frozen BK184.out 1; have hfz21_2 := blk_frozen BK184.out 2; have hfz21_3 := blk_frozen BK184.out 3; have hfz21_4 := blk_frozen BK184.out 4; have hfz21_5 := blk_frozen BK184.out 5))
    go_ret
    exact ⟨by first | rfl | (simp [errW_none, errW_some] <;> rfl) | (simp [*, errW_none, errW_some] <;> rfl), by repeat (first | (with_reducible first | exact HB.out | apply below_alloc | apply pw_below_drewN | apply below_drew1 | refine below_set ?_ GE183.out | refine below_set ?_ GE184.out) | exact HB.out)⟩
end Go.Proofs.YtknbebjphjpgpaaDoor.XD
namespace Go.Proofs.YtknbebjphjpgpaaDoor.XD
open Go.RowKit Go.Proofs.YtknbebjphjpgpaaDoorW.PrintWords Go.Proofs.YtknbebjphjpgpaaDoorW.PrintLast Go.Proofs.YtknbebjphjpgpaaDoorW.PrintMore
set_option linter.unusedVariables false
set_option linter.unusedSimpArgs false
theorem rd_at {l : List Int} {i : Nat} (h : i < l.length) : rd l (i : Int) = l[i] := by
  unfold rd; simp [h]
theorem rdT_at {l : List S37} {i : Nat} (h : i < l.length) : rd_T37 l (i : Int) = l[i] := by
  unfold rd_T37; simp [h]
theorem mkS_toList (l : List UInt8) : (⟨l.toArray⟩ : ByteArray).toList = l := by rw [ByteArray.toList_eq]
theorem Ev.pos {α : Type} {c : Prop} [Decidable c] {f g : Nat → Option α} {r : α} (hc : c) (h : Ev f r) : Ev (fun k => if c then f k else g k) r := Ev.congr (fun _ => if_pos hc) h
theorem Ev.neg {α : Type} {c : Prop} [Decidable c] {f g : Nat → Option α} {r : α} (hc : ¬ c) (h : Ev g r) : Ev (fun k => if c then f k else g k) r := Ev.congr (fun _ => if_neg hc) h
theorem Ev.val {α : Type} {r r' : α} (h : r = r') : Ev (fun _ => some r) r' := h ▸ Ev.now r
theorem str_eq_iff (t u : ByteArray) : t.toList = u.toList ↔ t = u := by
  constructor
  · intro h
    rw [ByteArray.toList_eq, ByteArray.toList_eq] at h
    exact ByteArray.ext (Array.toList_inj.1 h)
  · intro h; rw [h]
def sameB (a n : Int) (t : ByteArray) (l : List Int) (b m : Int) (u : ByteArray) (p : List Int) : Bool := decide (a = b ∧ n = m ∧ t = u ∧ l = p)
theorem same_loop (a n : Int) (t : ByteArray) (l : List Int) (b m : Int) (u : ByteArray) (p : List Int) (hl : l.length ≤ 4611686018427387904) (he : l.length = p.length) : ∀ d i : Nat, i + d = l.length → Ev (fun k => switchyardref06_Same.l0 k true (i : Int) a n t l b m u p) (decide (l.drop i = p.drop i)) := by
  intro d
  induction d with
  | zero =>
    intro i hi
    refine Ev.step (fun k => by simp only [switchyardref06_Same.l0]; rfl) (Ev.pos (by trivial) (Ev.neg (by omega) (Ev.val ?_)))
    rw [List.drop_eq_nil_of_le (show l.length ≤ i by omega), List.drop_eq_nil_of_le (show p.length ≤ i by omega)]; simp
  | succ d ih =>
    intro i hi
    have hlt : i < l.length := by omega
    have hpl : i < p.length := by omega
    refine Ev.step (fun k => by simp only [switchyardref06_Same.l0]; rfl) (Ev.pos (by trivial) (Ev.pos (by omega) (Ev.pos (by omega) (Ev.pos (by omega) ?_))))
    rw [rd_at hlt, rd_at hpl, List.drop_eq_getElem_cons hlt, List.drop_eq_getElem_cons hpl, wr_succ hlt (by omega)]
    by_cases h : l[i] = p[i]
    · rw [show (l[i] == p[i]) = true by simp [h]]
      have := ih (i + 1) (by omega)
      have e : decide (l[i] :: l.drop (i + 1) = p[i] :: p.drop (i + 1)) = decide (l.drop (i + 1) = p.drop (i + 1)) := by
        rw [decide_eq_decide]; rw [h]; simp only [List.cons.injEq, true_and]
      rw [e]; exact this
    · rw [show (l[i] == p[i]) = false by simp [h]]
      have e : decide (l[i] :: l.drop (i + 1) = p[i] :: p.drop (i + 1)) = false := by rw [decide_eq_false_iff_not]; intro hh; exact h (List.cons.inj hh).1
      rw [e]
      exact Ev.step (fun k => by simp only [switchyardref06_Same.l0]; rfl) (Ev.neg (by simp) (Ev.now _))
theorem ref_same_ev (a n : Int) (t : ByteArray) (l : List Int) (b m : Int) (u : ByteArray) (p : List Int) (hl : l.length ≤ 4611686018427387904) : Ev (fun k => switchyardref06_Same.f k a n t l b m u p) (sameB a n t l b m u p) := by
  have no : ¬ (a = b ∧ n = m ∧ t = u ∧ l = p) → Ev (fun k => switchyardref06_Same.j0 k false a n t l b m u p) (sameB a n t l b m u p) := by
    intro h
    rw [show sameB a n t l b m u p = false from decide_eq_false h]
    refine Ev.step (fun k => by simp only [switchyardref06_Same.j0]; rfl) ?_
    exact Ev.step (fun k => by simp only [switchyardref06_Same.l0]; rfl) (Ev.neg (by simp) (Ev.now _))
  unfold switchyardref06_Same.f
  by_cases h1 : a = b
  · refine Ev.pos h1 ?_
    by_cases h2 : n = m
    · refine Ev.pos h2 ?_
      by_cases h3 : t.toList = u.toList
      · refine Ev.pos h3 ?_
        have h3' := (str_eq_iff t u).1 h3
        by_cases h4 : l.length = p.length
        · rw [show ((l.length : Int) == (p.length : Int)) = true by simp [h4]]
          refine Ev.step (fun k => by simp only [switchyardref06_Same.j0]; rfl) ?_
          have := same_loop a n t l b m u p hl h4 l.length 0 (by omega)
          have e : sameB a n t l b m u p = decide (l = p) := by unfold sameB; rw [decide_eq_decide]; simp [h1, h2, h3']
          rw [e]
          simpa using this
        · rw [show ((l.length : Int) == (p.length : Int)) = false by simp; omega]
          exact no (fun h => h4 (by rw [h.2.2.2]))
      · exact Ev.neg h3 (no (fun h => h3 (by rw [h.2.2.1])))
    · exact Ev.neg h2 (no (fun h => h2 h.2.1))
  · exact Ev.neg h1 (no (fun h => h1 h.1))
instance : DecidableEq S37 := fun a b => by
  obtain ⟨a0, a1, a2, a3⟩ := a
  obtain ⟨b0, b1, b2, b3⟩ := b
  rw [S37.mk.injEq]
  exact inferInstance
theorem same_eq (v w : S37) : sameB v.f0 v.f1 v.f2 v.f3 w.f0 w.f1 w.f2 w.f3 = decide (v = w) := by
  unfold sameB
  rw [decide_eq_decide]
  obtain ⟨v0, v1, v2, v3⟩ := v
  obtain ⟨w0, w1, w2, w3⟩ := w
  rw [S37.mk.injEq]
theorem sameAll_loop (l m : List S37) (hl : l.length ≤ 4611686018427387904) (hL : ∀ v ∈ l, v.f3.length ≤ 4611686018427387904) (he : l.length = m.length) : ∀ d i : Nat, i + d = l.length → Ev (fun k => switchyardref06_SameAll.l0 k l m (l.length : Int) (i : Int)) (decide (l.drop i = m.drop i)) := by
  intro d
  induction d with
  | zero =>
    intro i hi
    refine Ev.step (fun k => by simp only [switchyardref06_SameAll.l0]; rfl) (Ev.neg (by omega) (Ev.val ?_))
    rw [List.drop_eq_nil_of_le (show l.length ≤ i by omega), List.drop_eq_nil_of_le (show m.length ≤ i by omega)]; simp
  | succ d ih =>
    intro i hi
    have hlt : i < l.length := by omega
    have hml : i < m.length := by omega
    refine Ev.step (fun k => by simp only [switchyardref06_SameAll.l0]; rfl) (Ev.pos (by omega) (Ev.pos (by omega) (Ev.pos (by omega) (Ev.pos (by omega) ?_))))
    rw [rdT_at hlt, rdT_at hml, wr_succ hlt (by omega)]
    refine Ev.bind (ref_same_ev _ _ _ _ _ _ _ _ (hL _ (List.getElem_mem hlt))) ?_
    rw [same_eq, List.drop_eq_getElem_cons hlt, List.drop_eq_getElem_cons hml]
    by_cases h : l[i] = m[i]
    · rw [decide_eq_true h]
      have e : decide (l[i] :: l.drop (i + 1) = m[i] :: m.drop (i + 1)) = decide (l.drop (i + 1) = m.drop (i + 1)) := by
        rw [decide_eq_decide, h]; simp only [List.cons.injEq, true_and]
      rw [e]
      exact Ev.pos rfl (ih (i + 1) (by omega))
    · rw [decide_eq_false h]
      have e : decide (l[i] :: l.drop (i + 1) = m[i] :: m.drop (i + 1)) = false := by rw [decide_eq_false_iff_not]; intro hh; exact h (List.cons.inj hh).1
      rw [e]
      exact Ev.neg (by simp) (Ev.now _)
theorem sameAll_ev (l m : List S37) (hl : l.length ≤ 4611686018427387904) (hL : ∀ v ∈ l, v.f3.length ≤ 4611686018427387904) : Ev (fun k => switchyardref06_SameAll.f k l m) (decide (l = m)) := by
  unfold switchyardref06_SameAll.f
  by_cases he : l.length = m.length
  · refine Ev.pos (by omega) ?_
    have := sameAll_loop l m hl hL he l.length 0 (by omega)
    simpa using this
  · refine Ev.neg (by omega) (Ev.val ?_)
    rw [eq_comm, decide_eq_false_iff_not]; intro h; exact he (by rw [h])
end Go.Proofs.YtknbebjphjpgpaaDoor.XD
