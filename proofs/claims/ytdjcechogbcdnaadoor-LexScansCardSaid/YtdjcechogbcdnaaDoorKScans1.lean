/- Words, printed functions and plain lemmas that the claim's theorem reaches (gathered by a program of this session out of its own and the print's texts). No conditions but those that each statement names. -/
import Derived.Test.YtdjcechogbcdnaaDoorKScans0
import Derived.Shelf.Strings.Builder1
import Derived.Shelf.Strings.Builder2
import Derived.Shelf.Strings.OnBuilder
import Derived.Shelf.Small.Strs
import Derived.Shelf.Strconv.Itoa0
import Derived.Shelf.Strconv.Itoa1
import Derived.Shelf.LaysM
import Derived.Shelf.Strconv.Itoa2
import Derived.Shelf.Strconv.Itoa3
import Derived.Shelf.Strconv.Itoa4
import Derived.Shelf.Strconv.ParseIntEmpty
import Derived.Shelf.Strconv.Clone
import Derived.Shelf.Strconv.SyntaxError
import Derived.Shelf.LaysC
import Derived.Shelf.Strconv.ToError
import Derived.Shelf.Strconv.Lower
import Derived.Shelf.Strconv.ParseUint10
import Derived.Shelf.Strconv.ParseUint10Empty
import Derived.Shelf.Strconv.ParseUint10Any
import Derived.Shelf.Strconv.ParseInt10
import Derived.Shelf.Strconv.RangeError
import Derived.Shelf.Strconv.ToErrorRange
import Derived.Shelf.Strconv.ParseUintEmpty
import Derived.Shelf.Strconv.ParseUint10b64
import Derived.Shelf.Strconv.ParseUint10b32
import Derived.Shelf.Strconv.ParseUint10b16
import Derived.Shelf.Strconv.ParseUint10b8
import Derived.Shelf.Strconv.ParseUint10At
import Derived.Shelf.Strconv.ParseInt10At64
import Derived.Shelf.Strconv.ParseInt10At32
import Derived.Shelf.Strconv.ParseInt10At16
import Derived.Shelf.Strconv.ParseInt10At8
import Derived.Shelf.Strconv.ParseInt10All
import Derived.Shelf.Strconv.ParseIntPublic10
import Derived.Shelf.Strconv.ErrVarParseInt
import Derived.Shelf.Strings.Search1
import Derived.Test.YtdjcechogbcdnaaDoorProg
import Derived.Below
import Derived.Deep.Draws
import Derived.Deep.AppendLies
import Derived.Maps.AppendAt
import Derived.OwnWalk
import Derived.Laws.BytesArg
import Derived.Laws.MakeOwn
import Derived.Laws.OwnMore
import Derived.Deep.OwnRows
import Derived.Tactics
import Derived.Lib.ConvBytes
import Derived.Laws.Slices
import Derived.WalkKit
import Derived.KernelRfl
import Derived.RowKit3
import Derived.Deep.LoopGhost
import Derived.Deep.QuietTactic
import Derived.BigQuiet
import Derived.WideLaws
import Derived.Deep.DeepCutAuto
import Derived.Deep.CutBlock
import Derived.Deep.RegionHeld3
import Derived.Laws.Rows
import Derived.Lib.AppendStr
import Derived.ArgAppend
import Derived.Laws.IdiomCopy
import Derived.OrdersHeld
import Derived.Laws.BitsLemmas
import Derived.RowKit
import Derived.Lib.Hide
import Derived.WalkLawsBesides
import Derived.WalkSpells
import Derived.Laws.RangeString
import Derived.Laws.RangeAny
import Derived.StillTailTactics
import Derived.Deep.RegionLaw
import Derived.Deep.LoopGhost
import Derived.Lib.SmallJoins
import Derived.Lib.AppendIntMem
import Derived.Lib.ItoaNum
namespace Go.Proofs
open Go.Shelf
def Tryd.lays156_ren : Go.Shelf.Ren := ⟨fun | 156 => 17 | 165 => 33 | 166 => 34 | 169 => 35 | 240 => 46 | 241 => 47 | 276 => 57 | 277 => 58 | n => n, fun | 31 => 40 | 9 => 9 | 3 => 3 | 4 => 4 | 0 => 0 | 20 => 20 | 72 => 64 | 76 => 66 | 70 => 61 | 37 => 62 | 75 => 46 | 127 => 77 | 164 => 84 | 5 => 5 | 80 => 68 | n => n, fun | n => n⟩
theorem Tryd.lays156 : Go.Proofs.Lays.n156 Tryd.prog Tryd.lays156_ren := {
  mixed := by kernel_rfl
  f156 := Tryd.func17.trans (congrArg some (by kernel_rfl))
  f165 := Tryd.func33.trans (congrArg some (by kernel_rfl))
  f166 := Tryd.func34.trans (congrArg some (by kernel_rfl))
  f169 := Tryd.func35.trans (congrArg some (by kernel_rfl))
  f240 := Tryd.func46.trans (congrArg some (by kernel_rfl))
  f241 := Tryd.func47.trans (congrArg some (by kernel_rfl))
  f276 := Tryd.func57.trans (congrArg some (by kernel_rfl))
  f277 := Tryd.func58.trans (congrArg some (by kernel_rfl))
  t0 := Tryd.underlying0
  a0 := Tryd.isAgg0
  z0 := Tryd.sizeOf0
  v0 := Tryd.zeroValue0
  t3 := Tryd.underlying3
  a3 := Tryd.isAgg3
  z3 := Tryd.sizeOf3
  v3 := Tryd.zeroValue3
  t4 := Tryd.underlying4
  a4 := Tryd.isAgg4
  z4 := Tryd.sizeOf4
  v4 := Tryd.zeroValue4
  t9 := Tryd.underlying9
  a9 := Tryd.isAgg9
  z9 := Tryd.sizeOf9
  v9 := Tryd.zeroValue9
  t20 := Tryd.underlying20
  a20 := Tryd.isAgg20
  z20 := Tryd.sizeOf20
  v20 := Tryd.zeroValue20
  t31 := Tryd.underlying40
  a31 := Tryd.isAgg40
  z31 := Tryd.sizeOf40
  v31 := Tryd.zeroValue40
  t37 := Tryd.underlying62
  a37 := Tryd.isAgg62
  z37 := Tryd.sizeOf62
  v37 := Tryd.zeroValue62
  t70 := Tryd.underlying61
  a70 := Tryd.isAgg61
  z70 := Tryd.sizeOf61
  v70 := Tryd.zeroValue61
  t72 := Tryd.underlying64
  a72 := Tryd.isAgg64
  z72 := Tryd.sizeOf64
  v72 := Tryd.zeroValue64
  t75 := Tryd.underlying46
  a75 := Tryd.isAgg46
  z75 := Tryd.sizeOf46
  v75 := Tryd.zeroValue46
  t76 := Tryd.underlying66
  a76 := Tryd.isAgg66
  z76 := Tryd.sizeOf66
  v76 := Tryd.zeroValue66
  t127 := Tryd.underlying77
  a127 := Tryd.isAgg77
  z127 := Tryd.sizeOf77
  v127 := Tryd.zeroValue77
  t164 := Tryd.underlying84
  a164 := Tryd.isAgg84
  z164 := Tryd.sizeOf84
  v164 := Tryd.zeroValue84 }
theorem Tryd.Builder_Extra_156 : Builder.Extra Tryd.prog Tryd.lays156_ren := {
  sizeBuilder := by kernel_rfl
  liesBuilder := by kernel_rfl
  t5 := Tryd.underlying5
  a5 := Tryd.isAgg5
  z5 := Tryd.sizeOf5
  v5 := Tryd.zeroValue5
  infoByte := by kernel_rfl
  cellsByte := by kernel_rfl
  sizeByte := by kernel_rfl
  neB5 := by decide }
open Go.RowKit in
theorem Tryd.strings_Join_none (a : Option Addr) (c : Nat) (sep : ByteArray) (w : World) :
    Calls Tryd.prog 17 #[.slice a 0 c, .string sep] w fun e w' => e = .returned (.string ⟨#[]⟩) ∧ w' = w := Any.strings_Join_none Tryd.lays156 Tryd.Builder_Extra_156 a c sep w
open Go.RowKit in
theorem Tryd.strings_Join (bk o c : Nat) (xs : List ByteArray) (sep : ByteArray) (w : World) (hcells : ∀ (j : Nat) x, xs[j]? = some x → w.cell? ⟨bk, o + j, none⟩ = some (.string x)) (hbk : bk < w.heap.size) (hN : xs.length ≤ 140737488355328) (hcap : xs.length ≤ c) (hlen : (Lib.join (xs.map (·.data.toList)) sep.data.toList).length ≤ 140737488355328) :
    Calls Tryd.prog 17 #[.slice (some ⟨bk, o, none⟩) xs.length c, .string sep] w fun e w' => e = .returned (.string ⟨(Lib.join (xs.map (·.data.toList)) sep.data.toList).toArray⟩) ∧ Below w.heap.size w w' := Any.strings_Join Tryd.lays156 Tryd.Builder_Extra_156 bk o c xs sep w hcells hbk hN hcap hlen
def Tryd.lays137_ren : Go.Shelf.Ren := ⟨fun | 137 => 18 | 217 => 36 | 266 => 48 | n => n, fun | 9 => 9 | 5 => 5 | 3 => 3 | n => n, fun | n => n⟩
theorem Tryd.lays137 : Go.Proofs.Lays.n137 Tryd.prog Tryd.lays137_ren := {
  mixed := by kernel_rfl
  f137 := Tryd.func18.trans (congrArg some (by kernel_rfl))
  f217 := Tryd.func36.trans (congrArg some (by kernel_rfl))
  f266 := Tryd.func48.trans (congrArg some (by kernel_rfl))
  t3 := Tryd.underlying3
  a3 := Tryd.isAgg3
  z3 := Tryd.sizeOf3
  v3 := Tryd.zeroValue3
  t5 := Tryd.underlying5
  a5 := Tryd.isAgg5
  z5 := Tryd.sizeOf5
  v5 := Tryd.zeroValue5
  t9 := Tryd.underlying9
  a9 := Tryd.isAgg9
  z9 := Tryd.sizeOf9
  v9 := Tryd.zeroValue9 }
open Go.RowKit in
theorem Tryd.strings_IndexByte (s : ByteArray) (c : Int) (w : World) :
    Calls Tryd.prog 18 #[.string s, .int .u8 c] w fun e w' => e = .returned (.int .i64 (Lib.indexByte s.data.toList c.toNat.toUInt8)) ∧ w' = w := Any.strings_IndexByte Tryd.lays137 s c w
def Tryd.laysM173_ren : Go.Shelf.Ren := ⟨fun | 173 => 43 | 246 => 55 | 283 => 64 | 284 => 65 | 285 => 66 | 286 => 67 | 129 => 70 | 317 => 69 | 318 => 71 | 319 => 72 | 320 => 73 | 337 => 74 | 338 => 75 | n => n, fun | 2 => 2 | 3 => 3 | 9 => 9 | 4 => 4 | 171 => 92 | 0 => 0 | 53 => 70 | 37 => 62 | 5 => 5 | 173 => 95 | 212 => 102 | 51 => 103 | 20 => 20 | 213 => 104 | 46 => 79 | 232 => 108 | 233 => 109 | n => n, fun | 17 => 4 | 18 => 5 | 19 => 6 | n => n⟩
theorem Tryd.laysM173 : Go.Proofs.LaysM.n173 Tryd.prog Tryd.laysM173_ren := {
  mixed := by kernel_rfl
  f129 := Tryd.func70.trans (congrArg some (by kernel_rfl))
  f173 := Tryd.func43.trans (congrArg some (by kernel_rfl))
  f246 := Tryd.func55.trans (congrArg some (by kernel_rfl))
  f283 := Tryd.func64.trans (congrArg some (by kernel_rfl))
  f284 := Tryd.func65.trans (congrArg some (by kernel_rfl))
  f285 := Tryd.func66.trans (congrArg some (by kernel_rfl))
  f286 := Tryd.func67.trans (congrArg some (by kernel_rfl))
  f317 := Tryd.func69.trans (congrArg some (by kernel_rfl))
  f318 := Tryd.func71.trans (congrArg some (by kernel_rfl))
  f319 := Tryd.func72.trans (congrArg some (by kernel_rfl))
  f320 := Tryd.func73.trans (congrArg some (by kernel_rfl))
  f337 := Tryd.func74.trans (congrArg some (by kernel_rfl))
  f338 := Tryd.func75.trans (congrArg some (by kernel_rfl))
  t0 := Tryd.underlying0
  a0 := Tryd.isAgg0
  z0 := Tryd.sizeOf0
  v0 := Tryd.zeroValue0
  t2 := Tryd.underlying2
  a2 := Tryd.isAgg2
  z2 := Tryd.sizeOf2
  v2 := Tryd.zeroValue2
  t3 := Tryd.underlying3
  a3 := Tryd.isAgg3
  z3 := Tryd.sizeOf3
  v3 := Tryd.zeroValue3
  t4 := Tryd.underlying4
  a4 := Tryd.isAgg4
  z4 := Tryd.sizeOf4
  v4 := Tryd.zeroValue4
  t5 := Tryd.underlying5
  a5 := Tryd.isAgg5
  z5 := Tryd.sizeOf5
  v5 := Tryd.zeroValue5
  t9 := Tryd.underlying9
  a9 := Tryd.isAgg9
  z9 := Tryd.sizeOf9
  v9 := Tryd.zeroValue9
  t20 := Tryd.underlying20
  a20 := Tryd.isAgg20
  z20 := Tryd.sizeOf20
  v20 := Tryd.zeroValue20
  t37 := Tryd.underlying62
  a37 := Tryd.isAgg62
  z37 := Tryd.sizeOf62
  v37 := Tryd.zeroValue62
  t46 := Tryd.underlying79
  a46 := Tryd.isAgg79
  z46 := Tryd.sizeOf79
  v46 := Tryd.zeroValue79
  t51 := Tryd.underlying103
  a51 := Tryd.isAgg103
  z51 := Tryd.sizeOf103
  v51 := Tryd.zeroValue103
  t53 := Tryd.underlying70
  a53 := Tryd.isAgg70
  z53 := Tryd.sizeOf70
  v53 := Tryd.zeroValue70
  t171 := Tryd.underlying92
  a171 := Tryd.isAgg92
  z171 := Tryd.sizeOf92
  v171 := Tryd.zeroValue92
  t173 := Tryd.underlying95
  a173 := Tryd.isAgg95
  z173 := Tryd.sizeOf95
  v173 := Tryd.zeroValue95
  t212 := Tryd.underlying102
  a212 := Tryd.isAgg102
  z212 := Tryd.sizeOf102
  v212 := Tryd.zeroValue102
  t213 := Tryd.underlying104
  a213 := Tryd.isAgg104
  z213 := Tryd.sizeOf104
  t232 := Tryd.underlying108
  a232 := Tryd.isAgg108
  z232 := Tryd.sizeOf108
  v232 := Tryd.zeroValue108
  t233 := Tryd.underlying109
  a233 := Tryd.isAgg109
  z233 := Tryd.sizeOf109
  v233 := Tryd.zeroValue109
  g17 := by kernel_rfl
  g18 := by kernel_rfl
  g19 := by kernel_rfl
  i0 := by kernel_rfl
  i2 := by kernel_rfl
  i3 := by kernel_rfl
  i4 := by kernel_rfl
  i5 := by kernel_rfl
  i9 := by kernel_rfl
  i20 := by kernel_rfl
  i37 := by kernel_rfl
  i46 := by kernel_rfl
  i51 := by kernel_rfl
  i53 := by kernel_rfl
  i171 := by kernel_rfl
  i173 := by kernel_rfl
  i212 := by kernel_rfl
  i232 := by kernel_rfl
  i233 := by kernel_rfl
  m17 := by kernel_rfl
  m18 := by kernel_rfl
  m19 := by kernel_rfl }
open Go.RowKit Go.Sort Go.Lib in
theorem Tryd.strconv_FormatInt_10 (n : Int) (h0 : -9223372036854775808 ≤ n) (h1 : n ≤ 9223372036854775807) (w : World) (htab : Lib.TabIs Tryd.prog w "internal/strconv.uint64pow10" .u64 Lib.pow10Tab) :
    Calls Tryd.prog 43 #[.int .i64 n, .int .i64 10] w fun e w' => e = .returned (.string ⟨(Lib.itoa n).toArray⟩) ∧ ∃ k os, w' = grow (w.drewN k) os := Any.strconv_FormatInt_10 Tryd.laysM173 n h0 h1 w htab
def Tryd.laysC245_ren : Go.Shelf.Ren := ⟨fun | 245 => 39 | 279 => 50 | 280 => 51 | 281 => 52 | 282 => 53 | 316 => 61 | 171 => 63 | 205 => 62 | 243 => 68 | 246 => 55 | 283 => 64 | 284 => 65 | 285 => 66 | 286 => 67 | 129 => 70 | 317 => 69 | 318 => 71 | 319 => 72 | 320 => 73 | 337 => 74 | 338 => 75 | n => n, fun | 9 => 9 | 3 => 3 | 75 => 46 | 167 => 78 | 4 => 4 | 168 => 80 | 210 => 89 | 37 => 62 | 0 => 0 | 127 => 77 | 145 => 99 | 143 => 97 | 2 => 2 | 171 => 92 | 53 => 70 | 5 => 5 | 173 => 95 | 212 => 102 | 51 => 103 | 20 => 20 | 213 => 104 | 46 => 79 | 232 => 108 | 233 => 109 | 80 => 68 | n => n, fun | 15 => 2 | 16 => 3 | 17 => 4 | 18 => 5 | 19 => 6 | n => n⟩
theorem Tryd.laysC245 : Go.Proofs.LaysC.n245 Tryd.prog Tryd.laysC245_ren := {
  mixed := by kernel_rfl
  f129 := Tryd.func70.trans (congrArg some (by kernel_rfl))
  f171 := Tryd.func63.trans (congrArg some (by kernel_rfl))
  f205 := Tryd.func62.trans (congrArg some (by kernel_rfl))
  f243 := Tryd.func68.trans (congrArg some (by kernel_rfl))
  f245 := Tryd.func39.trans (congrArg some (by kernel_rfl))
  f246 := Tryd.func55.trans (congrArg some (by kernel_rfl))
  f279 := Tryd.func50.trans (congrArg some (by kernel_rfl))
  f280 := Tryd.func51.trans (congrArg some (by kernel_rfl))
  f281 := Tryd.func52.trans (congrArg some (by kernel_rfl))
  f282 := Tryd.func53.trans (congrArg some (by kernel_rfl))
  f283 := Tryd.func64.trans (congrArg some (by kernel_rfl))
  f284 := Tryd.func65.trans (congrArg some (by kernel_rfl))
  f285 := Tryd.func66.trans (congrArg some (by kernel_rfl))
  f286 := Tryd.func67.trans (congrArg some (by kernel_rfl))
  f316 := Tryd.func61.trans (congrArg some (by kernel_rfl))
  f317 := Tryd.func69.trans (congrArg some (by kernel_rfl))
  f318 := Tryd.func71.trans (congrArg some (by kernel_rfl))
  f319 := Tryd.func72.trans (congrArg some (by kernel_rfl))
  f320 := Tryd.func73.trans (congrArg some (by kernel_rfl))
  f337 := Tryd.func74.trans (congrArg some (by kernel_rfl))
  f338 := Tryd.func75.trans (congrArg some (by kernel_rfl))
  t0 := Tryd.underlying0
  a0 := Tryd.isAgg0
  z0 := Tryd.sizeOf0
  v0 := Tryd.zeroValue0
  t2 := Tryd.underlying2
  a2 := Tryd.isAgg2
  z2 := Tryd.sizeOf2
  v2 := Tryd.zeroValue2
  t3 := Tryd.underlying3
  a3 := Tryd.isAgg3
  z3 := Tryd.sizeOf3
  v3 := Tryd.zeroValue3
  t4 := Tryd.underlying4
  a4 := Tryd.isAgg4
  z4 := Tryd.sizeOf4
  v4 := Tryd.zeroValue4
  t5 := Tryd.underlying5
  a5 := Tryd.isAgg5
  z5 := Tryd.sizeOf5
  v5 := Tryd.zeroValue5
  t9 := Tryd.underlying9
  a9 := Tryd.isAgg9
  z9 := Tryd.sizeOf9
  v9 := Tryd.zeroValue9
  t20 := Tryd.underlying20
  a20 := Tryd.isAgg20
  z20 := Tryd.sizeOf20
  v20 := Tryd.zeroValue20
  t37 := Tryd.underlying62
  a37 := Tryd.isAgg62
  z37 := Tryd.sizeOf62
  v37 := Tryd.zeroValue62
  t46 := Tryd.underlying79
  a46 := Tryd.isAgg79
  z46 := Tryd.sizeOf79
  v46 := Tryd.zeroValue79
  t51 := Tryd.underlying103
  a51 := Tryd.isAgg103
  z51 := Tryd.sizeOf103
  v51 := Tryd.zeroValue103
  t53 := Tryd.underlying70
  a53 := Tryd.isAgg70
  z53 := Tryd.sizeOf70
  v53 := Tryd.zeroValue70
  t75 := Tryd.underlying46
  a75 := Tryd.isAgg46
  z75 := Tryd.sizeOf46
  v75 := Tryd.zeroValue46
  t127 := Tryd.underlying77
  a127 := Tryd.isAgg77
  z127 := Tryd.sizeOf77
  v127 := Tryd.zeroValue77
  t143 := Tryd.underlying97
  a143 := Tryd.isAgg97
  z143 := Tryd.sizeOf97
  v143 := Tryd.zeroValue97
  t145 := Tryd.underlying99
  a145 := Tryd.isAgg99
  z145 := Tryd.sizeOf99
  v145 := Tryd.zeroValue99
  t167 := Tryd.underlying78
  a167 := Tryd.isAgg78
  z167 := Tryd.sizeOf78
  v167 := Tryd.zeroValue78
  t168 := Tryd.underlying80
  a168 := Tryd.isAgg80
  z168 := Tryd.sizeOf80
  v168 := Tryd.zeroValue80
  t171 := Tryd.underlying92
  a171 := Tryd.isAgg92
  z171 := Tryd.sizeOf92
  v171 := Tryd.zeroValue92
  t173 := Tryd.underlying95
  a173 := Tryd.isAgg95
  z173 := Tryd.sizeOf95
  v173 := Tryd.zeroValue95
  t210 := Tryd.underlying89
  a210 := Tryd.isAgg89
  z210 := Tryd.sizeOf89
  v210 := Tryd.zeroValue89
  t212 := Tryd.underlying102
  a212 := Tryd.isAgg102
  z212 := Tryd.sizeOf102
  v212 := Tryd.zeroValue102
  t213 := Tryd.underlying104
  a213 := Tryd.isAgg104
  z213 := Tryd.sizeOf104
  t232 := Tryd.underlying108
  a232 := Tryd.isAgg108
  z232 := Tryd.sizeOf108
  v232 := Tryd.zeroValue108
  t233 := Tryd.underlying109
  a233 := Tryd.isAgg109
  z233 := Tryd.sizeOf109
  v233 := Tryd.zeroValue109
  g15 := by kernel_rfl
  g16 := by kernel_rfl
  g17 := by kernel_rfl
  g18 := by kernel_rfl
  g19 := by kernel_rfl
  t80 := Tryd.underlying68
  a80 := Tryd.isAgg68
  z80 := Tryd.sizeOf68
  v80 := Tryd.zeroValue68
  i0 := by kernel_rfl
  i2 := by kernel_rfl
  i3 := by kernel_rfl
  i4 := by kernel_rfl
  i5 := by kernel_rfl
  i9 := by kernel_rfl
  i20 := by kernel_rfl
  i37 := by kernel_rfl
  i46 := by kernel_rfl
  i51 := by kernel_rfl
  i53 := by kernel_rfl
  i75 := by kernel_rfl
  i80 := by kernel_rfl
  i127 := by kernel_rfl
  i143 := by kernel_rfl
  i145 := by kernel_rfl
  i167 := by kernel_rfl
  i168 := by kernel_rfl
  i171 := by kernel_rfl
  i173 := by kernel_rfl
  i210 := by kernel_rfl
  i212 := by kernel_rfl
  i232 := by kernel_rfl
  i233 := by kernel_rfl
  m15 := by kernel_rfl
  m16 := by kernel_rfl
  m17 := by kernel_rfl
  m18 := by kernel_rfl
  m19 := by kernel_rfl
  c0 := by kernel_rfl
  c2 := by kernel_rfl
  c3 := by kernel_rfl
  c4 := by kernel_rfl
  c5 := by kernel_rfl
  c9 := by kernel_rfl
  c20 := by kernel_rfl
  c37 := by kernel_rfl
  c46 := by kernel_rfl
  c51 := by kernel_rfl
  c53 := by kernel_rfl
  c75 := by kernel_rfl
  c80 := by kernel_rfl
  c127 := by kernel_rfl
  c143 := by kernel_rfl
  c145 := by kernel_rfl
  c167 := by kernel_rfl
  c168 := by kernel_rfl
  c171 := by kernel_rfl
  c173 := by kernel_rfl
  c210 := by kernel_rfl
  c212 := by kernel_rfl
  c213 := by kernel_rfl
  c232 := by kernel_rfl
  c233 := by kernel_rfl }
open Go.RowKit in
theorem Tryd.strconv_toError_syntax (fn s : ByteArray) (base bits : Int) (ev : Value) (w : World) (hlim : s.size ≤ 281474976710656) (hv : w.cell? ⟨2, 0, none⟩ = some ev) (hev : ev = .nilIface ∨ ∃ te pe, ev = .iface te pe) :
    Calls Tryd.prog 39 #[.string fn, .string s, .int .i64 base, .int .i64 bits, .iface 78 (.int .i64 2)] w fun e w' => ∃ N, e = .returned (.iface 80 (.pointer (some ⟨N, 0, none⟩))) ∧ w.heap.size ≤ N ∧ w'.heap[N]? = some (.cells #[.string fn, .string s, ev] 89 (0, 0)) ∧ Below w.heap.size w w' := Any.strconv_toError_syntax Tryd.laysC245 fn s base bits ev w hlim hv hev
def Tryd.lays321_ren : Go.Shelf.Ren := ⟨fun | 321 => 59 | n => n, fun | 5 => 5 | n => n, fun | n => n⟩
theorem Tryd.lays321 : Go.Proofs.Lays.n321 Tryd.prog Tryd.lays321_ren := {
  mixed := by kernel_rfl
  f321 := Tryd.func59.trans (congrArg some (by kernel_rfl))
  t5 := Tryd.underlying5
  a5 := Tryd.isAgg5
  z5 := Tryd.sizeOf5
  v5 := Tryd.zeroValue5 }
open Go.RowKit in
theorem Tryd.internal_strconv_lower (c : Int) (w : World) :
    Calls Tryd.prog 59 #[.int .u8 c] w fun e w' => e = .returned (.int .u8 (bits .or .u8 c 32)) ∧ w' = w := Any.internal_strconv_lower Tryd.lays321 c w
def Tryd.laysC174_ren : Go.Shelf.Ren := ⟨fun | 174 => 24 | 247 => 38 | 245 => 39 | 287 => 49 | 279 => 50 | 280 => 51 | 281 => 52 | 282 => 53 | 321 => 59 | 322 => 60 | 316 => 61 | 171 => 63 | 205 => 62 | 243 => 68 | 246 => 55 | 283 => 64 | 284 => 65 | 285 => 66 | 286 => 67 | 129 => 70 | 317 => 69 | 318 => 71 | 319 => 72 | 320 => 73 | 337 => 74 | 338 => 75 | n => n, fun | 9 => 9 | 3 => 3 | 2 => 2 | 75 => 46 | 85 => 47 | 4 => 4 | 167 => 78 | 5 => 5 | 53 => 70 | 175 => 71 | 46 => 79 | 168 => 80 | 37 => 62 | 0 => 0 | 210 => 89 | 21 => 21 | 127 => 77 | 145 => 99 | 143 => 97 | 171 => 92 | 173 => 95 | 212 => 102 | 51 => 103 | 20 => 20 | 213 => 104 | 232 => 108 | 233 => 109 | 80 => 68 | n => n, fun | 15 => 2 | 16 => 3 | 17 => 4 | 18 => 5 | 19 => 6 | n => n⟩
theorem Tryd.laysC174 : Go.Proofs.LaysC.n174 Tryd.prog Tryd.laysC174_ren := {
  mixed := by kernel_rfl
  f129 := Tryd.func70.trans (congrArg some (by kernel_rfl))
  f171 := Tryd.func63.trans (congrArg some (by kernel_rfl))
  f174 := Tryd.func24.trans (congrArg some (by kernel_rfl))
  f205 := Tryd.func62.trans (congrArg some (by kernel_rfl))
  f243 := Tryd.func68.trans (congrArg some (by kernel_rfl))
  f245 := Tryd.func39.trans (congrArg some (by kernel_rfl))
  f246 := Tryd.func55.trans (congrArg some (by kernel_rfl))
  f247 := Tryd.func38.trans (congrArg some (by kernel_rfl))
  f279 := Tryd.func50.trans (congrArg some (by kernel_rfl))
  f280 := Tryd.func51.trans (congrArg some (by kernel_rfl))
  f281 := Tryd.func52.trans (congrArg some (by kernel_rfl))
  f282 := Tryd.func53.trans (congrArg some (by kernel_rfl))
  f283 := Tryd.func64.trans (congrArg some (by kernel_rfl))
  f284 := Tryd.func65.trans (congrArg some (by kernel_rfl))
  f285 := Tryd.func66.trans (congrArg some (by kernel_rfl))
  f286 := Tryd.func67.trans (congrArg some (by kernel_rfl))
  f287 := Tryd.func49.trans (congrArg some (by kernel_rfl))
  f316 := Tryd.func61.trans (congrArg some (by kernel_rfl))
  f317 := Tryd.func69.trans (congrArg some (by kernel_rfl))
  f318 := Tryd.func71.trans (congrArg some (by kernel_rfl))
  f319 := Tryd.func72.trans (congrArg some (by kernel_rfl))
  f320 := Tryd.func73.trans (congrArg some (by kernel_rfl))
  f321 := Tryd.func59.trans (congrArg some (by kernel_rfl))
  f322 := Tryd.func60.trans (congrArg some (by kernel_rfl))
  f337 := Tryd.func74.trans (congrArg some (by kernel_rfl))
  f338 := Tryd.func75.trans (congrArg some (by kernel_rfl))
  t0 := Tryd.underlying0
  a0 := Tryd.isAgg0
  z0 := Tryd.sizeOf0
  v0 := Tryd.zeroValue0
  t2 := Tryd.underlying2
  a2 := Tryd.isAgg2
  z2 := Tryd.sizeOf2
  v2 := Tryd.zeroValue2
  t3 := Tryd.underlying3
  a3 := Tryd.isAgg3
  z3 := Tryd.sizeOf3
  v3 := Tryd.zeroValue3
  t4 := Tryd.underlying4
  a4 := Tryd.isAgg4
  z4 := Tryd.sizeOf4
  v4 := Tryd.zeroValue4
  t5 := Tryd.underlying5
  a5 := Tryd.isAgg5
  z5 := Tryd.sizeOf5
  v5 := Tryd.zeroValue5
  t9 := Tryd.underlying9
  a9 := Tryd.isAgg9
  z9 := Tryd.sizeOf9
  v9 := Tryd.zeroValue9
  t20 := Tryd.underlying20
  a20 := Tryd.isAgg20
  z20 := Tryd.sizeOf20
  v20 := Tryd.zeroValue20
  t21 := Tryd.underlying21
  a21 := Tryd.isAgg21
  z21 := Tryd.sizeOf21
  v21 := Tryd.zeroValue21
  t37 := Tryd.underlying62
  a37 := Tryd.isAgg62
  z37 := Tryd.sizeOf62
  v37 := Tryd.zeroValue62
  t46 := Tryd.underlying79
  a46 := Tryd.isAgg79
  z46 := Tryd.sizeOf79
  v46 := Tryd.zeroValue79
  t51 := Tryd.underlying103
  a51 := Tryd.isAgg103
  z51 := Tryd.sizeOf103
  v51 := Tryd.zeroValue103
  t53 := Tryd.underlying70
  a53 := Tryd.isAgg70
  z53 := Tryd.sizeOf70
  v53 := Tryd.zeroValue70
  t75 := Tryd.underlying46
  a75 := Tryd.isAgg46
  z75 := Tryd.sizeOf46
  v75 := Tryd.zeroValue46
  t85 := Tryd.underlying47
  a85 := Tryd.isAgg47
  z85 := Tryd.sizeOf47
  v85 := Tryd.zeroValue47
  t127 := Tryd.underlying77
  a127 := Tryd.isAgg77
  z127 := Tryd.sizeOf77
  v127 := Tryd.zeroValue77
  t143 := Tryd.underlying97
  a143 := Tryd.isAgg97
  z143 := Tryd.sizeOf97
  v143 := Tryd.zeroValue97
  t145 := Tryd.underlying99
  a145 := Tryd.isAgg99
  z145 := Tryd.sizeOf99
  v145 := Tryd.zeroValue99
  t167 := Tryd.underlying78
  a167 := Tryd.isAgg78
  z167 := Tryd.sizeOf78
  v167 := Tryd.zeroValue78
  t168 := Tryd.underlying80
  a168 := Tryd.isAgg80
  z168 := Tryd.sizeOf80
  v168 := Tryd.zeroValue80
  t171 := Tryd.underlying92
  a171 := Tryd.isAgg92
  z171 := Tryd.sizeOf92
  v171 := Tryd.zeroValue92
  t173 := Tryd.underlying95
  a173 := Tryd.isAgg95
  z173 := Tryd.sizeOf95
  v173 := Tryd.zeroValue95
  t175 := Tryd.underlying71
  a175 := Tryd.isAgg71
  z175 := Tryd.sizeOf71
  v175 := Tryd.zeroValue71
  t210 := Tryd.underlying89
  a210 := Tryd.isAgg89
  z210 := Tryd.sizeOf89
  v210 := Tryd.zeroValue89
  t212 := Tryd.underlying102
  a212 := Tryd.isAgg102
  z212 := Tryd.sizeOf102
  v212 := Tryd.zeroValue102
  t213 := Tryd.underlying104
  a213 := Tryd.isAgg104
  z213 := Tryd.sizeOf104
  t232 := Tryd.underlying108
  a232 := Tryd.isAgg108
  z232 := Tryd.sizeOf108
  v232 := Tryd.zeroValue108
  t233 := Tryd.underlying109
  a233 := Tryd.isAgg109
  z233 := Tryd.sizeOf109
  v233 := Tryd.zeroValue109
  g15 := by kernel_rfl
  g16 := by kernel_rfl
  g17 := by kernel_rfl
  g18 := by kernel_rfl
  g19 := by kernel_rfl
  t80 := Tryd.underlying68
  a80 := Tryd.isAgg68
  z80 := Tryd.sizeOf68
  v80 := Tryd.zeroValue68
  i0 := by kernel_rfl
  i2 := by kernel_rfl
  i3 := by kernel_rfl
  i4 := by kernel_rfl
  i5 := by kernel_rfl
  i9 := by kernel_rfl
  i20 := by kernel_rfl
  i21 := by kernel_rfl
  i37 := by kernel_rfl
  i46 := by kernel_rfl
  i51 := by kernel_rfl
  i53 := by kernel_rfl
  i75 := by kernel_rfl
  i80 := by kernel_rfl
  i85 := by kernel_rfl
  i127 := by kernel_rfl
  i143 := by kernel_rfl
  i145 := by kernel_rfl
  i167 := by kernel_rfl
  i168 := by kernel_rfl
  i171 := by kernel_rfl
  i173 := by kernel_rfl
  i175 := by kernel_rfl
  i210 := by kernel_rfl
  i212 := by kernel_rfl
  i232 := by kernel_rfl
  i233 := by kernel_rfl
  m15 := by kernel_rfl
  m16 := by kernel_rfl
  m17 := by kernel_rfl
  m18 := by kernel_rfl
  m19 := by kernel_rfl
  c0 := by kernel_rfl
  c2 := by kernel_rfl
  c3 := by kernel_rfl
  c4 := by kernel_rfl
  c5 := by kernel_rfl
  c9 := by kernel_rfl
  c20 := by kernel_rfl
  c21 := by kernel_rfl
  c37 := by kernel_rfl
  c46 := by kernel_rfl
  c51 := by kernel_rfl
  c53 := by kernel_rfl
  c75 := by kernel_rfl
  c80 := by kernel_rfl
  c85 := by kernel_rfl
  c127 := by kernel_rfl
  c143 := by kernel_rfl
  c145 := by kernel_rfl
  c167 := by kernel_rfl
  c168 := by kernel_rfl
  c171 := by kernel_rfl
  c173 := by kernel_rfl
  c175 := by kernel_rfl
  c210 := by kernel_rfl
  c212 := by kernel_rfl
  c213 := by kernel_rfl
  c232 := by kernel_rfl
  c233 := by kernel_rfl }
open Go.RowKit in
theorem Tryd.strconv_ParseInt_10_at64_ok (s : ByteArray) (hmax : s.size ≤ 9223372036854775806) (v : Int) (h : Lib.parseIntB 64 s.data.toList = .ok v) (w : World) :
    Calls Tryd.prog 24 #[.string s, .int .i64 10, .int .i64 64] w fun e w' => e = .returned (.tuple #[.int .i64 v, .nilIface]) ∧ (w' = w ∨ ∃ t, w' = Lib.bytesWorld w 5 t) := Any.strconv_ParseInt_10_at64_ok Tryd.laysC174 s hmax v h w
open Go.RowKit in
theorem Tryd.strconv_ParseInt_10_at64_syntax_var (s : ByteArray) (hlim : s.size ≤ 281474976710656) (h : Lib.parseIntB 64 s.data.toList = .«syntax») (tp : TypeId) (p : Value) (w : World) (hvar : w.var? Tryd.prog "strconv.ErrSyntax" = some #[.iface tp p]) :
    Calls Tryd.prog 24 #[.string s, .int .i64 10, .int .i64 64] w fun e w' => ∃ N, e = .returned (.tuple #[.int .i64 (0), .iface 80 (.pointer (some ⟨N, 0, none⟩))]) ∧ w.heap.size ≤ N ∧ w'.heap[N]? = some (.cells #[.string ⟨#[80, 97, 114, 115, 101, 73, 110, 116]⟩, .string s, .iface tp p] 89 (0, 0)) ∧ Below w.heap.size w w' := Any.strconv_ParseInt_10_at64_syntax_var Tryd.laysC174 s hlim h tp p w hvar
open Go.RowKit in
theorem Tryd.strconv_ParseInt_10_at64_range_var (s : ByteArray) (hlim : s.size ≤ 281474976710656) (h : Lib.parseIntB 64 s.data.toList = .range) (tp : TypeId) (p : Value) (w : World) (hvar : w.var? Tryd.prog "strconv.ErrRange" = some #[.iface tp p]) :
    Calls Tryd.prog 24 #[.string s, .int .i64 10, .int .i64 64] w fun e w' => ∃ N, e = .returned (.tuple #[.int .i64 (Lib.intSat 64 s.data.toList), .iface 80 (.pointer (some ⟨N, 0, none⟩))]) ∧ w.heap.size ≤ N ∧ w'.heap[N]? = some (.cells #[.string ⟨#[80, 97, 114, 115, 101, 73, 110, 116]⟩, .string s, .iface tp p] 89 (0, 0)) ∧ Below w.heap.size w w' := Any.strconv_ParseInt_10_at64_range_var Tryd.laysC174 s hlim h tp p w hvar
end Go.Proofs
namespace Go.Proofs.YtdjcechogbcdnaaDoor.XL
open Go.RowKit Go.Proofs.YtdjcechogbcdnaaDoorW.PrintWords Go.Proofs.YtdjcechogbcdnaaDoorW.PrintLast Go.Proofs.YtdjcechogbcdnaaDoorW.PrintMore
attribute [local go_sem] max2_int min2_int max_two min_two max_three min_three max_four min_four   -- for this text's walks alone
set_option linter.unusedVariables false
set_option linter.unusedSimpArgs false
def errW : Option Int → Value
  | none => .nilIface
  | some c => .iface 0 (.int .i64 c)
theorem errW_none : errW none = .nilIface := rfl
theorem errW_some (c : Int) : errW (some c) = .iface 0 (.int .i64 c) := rfl
theorem info5 : (Tryd.prog.info? 5).map (fun i => (i.zero, i.size, i.bytes)) = some (some (.int .u8 0), 1, 1) := by kernel_rfl
theorem info9 : (Tryd.prog.info? 9).map (fun i => (i.zero, i.size, i.bytes)) = some (some (.string ⟨#[]⟩), 1, 16) := by kernel_rfl
theorem info32 : (Tryd.prog.info? 32).map (fun i => (i.zero, i.size, i.bytes)) = some (some (.agg #[(.int .i64 0), (.string ⟨#[]⟩), (.int .i64 0), (.int .i64 0)]), 4, 40) := by kernel_rfl
structure S32 where
  f0 : Int
  f1 : ByteArray
  f2 : Int
  f3 : Int
def z32 : S32 := ⟨(0 : Int), (⟨#[]⟩ : ByteArray), (0 : Int), (0 : Int)⟩
def k32 : Kd S32 := Kd.iso (Kd.pair (Kd.int .i64) (Kd.pair Kd.string (Kd.pair (Kd.int .i64) (Kd.int .i64)))) (fun x : S32 => (x.f0, x.f1, x.f2, x.f3))
theorem k32_open {w : World} {x : S32} {cs : List Value} (h : k32.K w x cs) : cs = [.int .i64 x.f0, .string x.f1, .int .i64 x.f2, .int .i64 x.f3] := by
  obtain ⟨_, _, rfl, rfl, ⟨_, _, rfl, rfl, ⟨_, _, rfl, rfl, rfl⟩⟩⟩ := h
  exact rfl
theorem k32_mkM (w : World) (base : Nat) (ok : Nat → Prop) (x : S32)  : k32.M w base ok x [.int .i64 x.f0, .string x.f1, .int .i64 x.f2, .int .i64 x.f3] := ⟨[.int .i64 x.f0], [.string x.f1, .int .i64 x.f2, .int .i64 x.f3], rfl, rfl, ⟨[.string x.f1], [.int .i64 x.f2, .int .i64 x.f3], rfl, rfl, ⟨[.int .i64 x.f2], [.int .i64 x.f3], rfl, rfl, rfl⟩⟩⟩
def rd_T32 (xs : List S32) (i : Int) : S32 := xs.getD i.toNat z32
theorem at_T32 {w : World} {A : Option Addr} {n : Nat} {xs : List S32} (h : Kd.C k32 w A n xs) (i : Int) (h0 : 0 ≤ i) (h1 : i < n) : ∃ ad , A = some ad ∧ w.cell? (ad.add (i.toNat * 4)) = some (.int .i64 (rd_T32 xs i).f0) ∧ w.cell? ⟨(ad.add (i.toNat * 4)).block, (ad.add (i.toNat * 4)).off + 1, none⟩ = some (.string (rd_T32 xs i).f1) ∧ w.cell? ⟨(ad.add (i.toNat * 4)).block, (ad.add (i.toNat * 4)).off + 2, none⟩ = some (.int .i64 (rd_T32 xs i).f2) ∧ w.cell? ⟨(ad.add (i.toNat * 4)).block, (ad.add (i.toNat * 4)).off + 3, none⟩ = some (.int .i64 (rd_T32 xs i).f3) := by
  obtain ⟨ad, c, e, _, hK, hc0⟩ := Kd.C_get h z32 i h0 h1
  have hc : ∀ j u, c[j]? = some u → w.cell? (ad.add (i.toNat * 4 + j)) = some u := hc0
  obtain rfl := k32_open hK
  exact ⟨ad, e, hc 0 _ rfl, by rw [← add_field _ _ 1 (by omega)]; exact hc 1 _ rfl, by rw [← add_field _ _ 2 (by omega)]; exact hc 2 _ rfl, by rw [← add_field _ _ 3 (by omega)]; exact hc 3 _ rfl⟩
end Go.Proofs.YtdjcechogbcdnaaDoor.XL
namespace Go.Proofs.YtdjcechogbcdnaaDoor.XL
open Go.RowKit Go.Proofs.YtdjcechogbcdnaaDoorW.PrintWords Go.Proofs.YtdjcechogbcdnaaDoorW.PrintLast Go.Proofs.YtdjcechogbcdnaaDoorW.PrintMore
attribute [local go_sem] max2_int min2_int max_two min_two max_three min_three max_four min_four   -- for this text's walks alone
set_option linter.unusedVariables false
set_option linter.unusedSimpArgs false
theorem bsize_mk (a : Array UInt8) : (ByteArray.mk a).size = a.size := rfl
/-- 'Greater', as the walk tells it. -/
@[simp] theorem bytes_gt : ∀ (a b : List UInt8), (!Op.bytesLess a b && !(a == b)) = Op.bytesLess b a
  | [], [] => by simp [Op.bytesLess]
  | [], _ :: _ => by simp [Op.bytesLess]
  | _ :: _, [] => by simp [Op.bytesLess]
  | x :: a, y :: b => by
    have ih := bytes_gt a b
    simp only [Op.bytesLess]
    by_cases h1 : x < y
    · have h2 : ¬ y < x := fun h => by rw [UInt8.lt_iff_toNat_lt] at h h1; omega
      have h3 : ¬ y = x := fun h => by rw [h] at h1; exact absurd h1 (by rw [UInt8.lt_iff_toNat_lt]; omega)
      simp [h1, h2, h3]
    · by_cases h2 : y < x
      · have h3 : ¬ x = y := fun h => by rw [h] at h2; exact absurd h2 (by rw [UInt8.lt_iff_toNat_lt]; omega)
        simp [h1, h2, h3]
      · have h3 : x = y := UInt8.toNat_inj.1 (by rw [UInt8.lt_iff_toNat_lt] at h1 h2; omega)
        subst h3
        simp only [List.cons_beq_cons, beq_self_eq_true, Bool.true_and, h1, decide_false, Bool.false_or]
        exact ih
def signL : List (List UInt8) := [[45, 62], [46, 46], [61, 61], [33, 61], [60, 61], [62, 61], [38, 38], [124, 124], [123], [125], [40], [41], [91], [93], [59], [58], [44], [46], [61], [60], [62], [43], [45], [42], [47], [37], [33]]
/-- What lies in memory when the call begins, and stays: the library's table, its errors (whatever they are), the signs. -/
structure Tabs (w : World) : Prop where
  pow : Lib.TabIs Tryd.prog w "internal/strconv.uint64pow10" .u64 Lib.pow10Tab
  signs : w.var? Tryd.prog "switchyard/lex.signs" = some (signL.map fun z => Value.string ⟨z.toArray⟩).toArray
  range : ∃ tp p, w.var? Tryd.prog "strconv.ErrRange" = some #[.iface tp p]
  syntax_ : ∃ tp p, w.var? Tryd.prog "strconv.ErrSyntax" = some #[.iface tp p]
theorem Tabs.below {w W : World} (h : Tabs w) (hb : Below w.heap.size w W) : Tabs W := by
  obtain ⟨h1, h2, ⟨tp, p, h3⟩, tq, q, h4⟩ := h
  exact ⟨Go.Joins.tab_stays (g := 4) (by kernel_rfl) h1 hb (Nat.le_refl _), Go.Joins.var_stays (g := 0) (by kernel_rfl) h2 hb (Nat.le_refl _), ⟨tp, p, Go.Joins.var_stays (g := 3) (by kernel_rfl) h3 hb (Nat.le_refl _)⟩, tq, q, Go.Joins.var_stays (g := 2) (by kernel_rfl) h4 hb (Nat.le_refl _)⟩
theorem Tabs.sign {w : World} (h : Tabs w) (i : Nat) (hi : i < 27) : w.cell? ⟨0, i, none⟩ = some (Value.string ⟨(signL.getD i []).toArray⟩) := by
  have := World.var?_cell (g := 0) (by kernel_rfl) h.signs i
  rw [this]
  have hl : i < signL.length := hi
  simp [List.getD, hl]
def strings_IndexByte.f (a0 : ByteArray) (a1 : Int) : Option Int := some (Lib.indexByte a0.data.toList a1.toNat.toUInt8)
theorem strings_IndexByte.calls (a0 : ByteArray) (a1 : Int) (r : Int) (w : World) (h : strings_IndexByte.f a0 a1 = some r) :
    Calls Tryd.prog 18 #[.string a0, .int .u8 a1] w fun e w' => e = .returned (.int .i64 r) ∧ Drawn0 w w' := by
  obtain rfl := Option.some.inj h
  exact (Tryd.strings_IndexByte a0 a1 w).mono fun e w' ⟨he, hw⟩ => ⟨he, by subst hw; exact Drawn0.refl _⟩
def stringslite_HasPrefix.f (a0 : ByteArray) (a1 : ByteArray) : Option (Bool) := if (a0.size : Int) ≥ (a1.size : Int) then (if 0 ≤ (a1.size : Int) then (if (a1.size : Int) ≤ (a0.size : Int) then (some ((a0.extract 0 ((a1.size : Int) : Int).toNat).toList == a1.toList)) else (none)) else (none)) else (some false)
set_option maxHeartbeats 4000000 in
set_option maxRecDepth 100000 in
theorem stringslite_HasPrefix.calls (a0 : ByteArray) (a1 : ByteArray) (r : Bool) (w : World) (h : stringslite_HasPrefix.f a0 a1 = some r) :
    Calls Tryd.prog 37 #[.string a0, .string a1] w fun e w' => e = .returned (.bool r) ∧ Drawn0 w w' := by
  have H : (if (a0.size : Int) ≥ (a1.size : Int) then (if 0 ≤ (a1.size : Int) then (if (a1.size : Int) ≤ (a0.size : Int) then (some ((a0.extract 0 ((a1.size : Int) : Int).toNat).toList == a1.toList)) else (none)) else (none)) else (some false)) = some r := h
  clear h
  by_cases c3 : (a0.size : Int) ≥ (a1.size : Int)
  · rw [if_pos c3] at H
    have c3b0 : decide ((a1.size : Int) ≤ (a0.size : Int)) = true := decide_eq_true c3
    have c3b1 : decide (a1.size ≤ a0.size) = true := decide_eq_true (Int.ofNat_le.mp c3)
    clear c3
    by_cases c4 : 0 ≤ (a1.size : Int)
    · rw [if_pos c4] at H
      have c4b0 := eq_true c4
      have c4b1 : decide (0 ≤ (a1.size : Int)) = true := decide_eq_true c4
      clear c4
      by_cases c5 : (a1.size : Int) ≤ (a0.size : Int)
      · rw [if_pos c5] at H
        have c5b0 := eq_true c5
        have c5b1 : decide ((a1.size : Int) ≤ (a0.size : Int)) = true := decide_eq_true c5
        clear c5
        obtain rfl := Option.some.inj H
        go_enter Tryd.func37, Tryd.ntmps37
        go_wp2
        go_ret
        exact ⟨by first | rfl | (simp; done) | (simp [*]; done), by repeat (first | exact Drawn0.refl _ | apply Drawn0.step)⟩
      · rw [if_neg c5] at H
        exact absurd H (by simp)
    · rw [if_neg c4] at H
      exact absurd H (by simp)
  · rw [if_neg c3] at H
    have c3b0 : decide ((a1.size : Int) ≤ (a0.size : Int)) = false := decide_eq_false c3
    have c3b1 : decide (a1.size ≤ a0.size) = false := decide_eq_false (fun h => c3 (Int.ofNat_le.mpr h))
    clear c3
    obtain rfl := Option.some.inj H
    go_enter Tryd.func37, Tryd.ntmps37
    go_wp2
    go_ret
    exact ⟨by first | rfl | (simp; done) | (simp [*]; done), by repeat (first | exact Drawn0.refl _ | apply Drawn0.step)⟩
def strings_HasPrefix.f (a0 : ByteArray) (a1 : ByteArray) : Option (Bool) := (stringslite_HasPrefix.f a0 a1).bind fun t101 => (some t101)
set_option maxHeartbeats 4000000 in
set_option maxRecDepth 100000 in
theorem strings_HasPrefix.calls (a0 : ByteArray) (a1 : ByteArray) (r : Bool) (w : World) (h : strings_HasPrefix.f a0 a1 = some r) :
    Calls Tryd.prog 19 #[.string a0, .string a1] w fun e w' => e = .returned (.bool r) ∧ Drawn0 w w' := by
  have H : ((stringslite_HasPrefix.f a0 a1).bind fun t101 => (some t101)) = some r := h
  clear h
  replace H := Option.bind_eq_some_iff.mp H
  obtain ⟨t101, A30, H⟩ := H
  replace H : (some t101) = some r := H
  have A3 := Aside0.mk A30
  clear A30
  obtain rfl := Option.some.inj H
  go_enter Tryd.func19, Tryd.ntmps19
  go_wp2_with (first | ((with_reducible refine gate_callee (f := 37) rfl ?_); refine goesL_ (some 7) rfl rfl Tryd.func37 (by kernel_rfl) rfl #[.string a0, .string a1] rfl (by (try simp only [List.map_toArray, List.map_cons, List.map_nil]); first | done | rfl | (simp only [List.length_drop, List.length_take]; rfl)) ?_; (with_reducible refine (stringslite_HasPrefix.calls a0 a1 t101 _ A3.out).mono ?_); rintro e w' ⟨rfl, ⟨nd, rfl⟩⟩; refine ⟨_, rfl, ?_⟩))
  go_ret
  exact ⟨by first | rfl | (simp; done) | (simp [*]; done), by repeat (first | exact Drawn0.refl _ | apply Drawn0.step)⟩
def lex_blanks.l0 : Nat → ByteArray → Int → Option (Int)
  | 0, _, _ => none
  | k + 1, x0, x3 => if x3 < (x0.size : Int) then (if 0 ≤ x3 then ((strings_IndexByte.f (⟨#[9, 10, 13, 32]⟩ : ByteArray) (bt x0 x3)).bind fun t102 => (if t102 ≥ 0 then (lex_blanks.l0 k x0 (wrap64 (x3 + 1))) else (if x3 ≤ (x0.size : Int) then ((strings_HasPrefix.f (x0.extract (x3 : Int).toNat x0.size) (⟨#[47, 47]⟩ : ByteArray)).bind fun t103 => (if t103 = true then ((strings_IndexByte.f (x0.extract (x3 : Int).toNat x0.size) 10).bind fun t104 => (if t104 < 0 then (some (x0.size : Int)) else (lex_blanks.l0 k x0 (wrap64 (x3 + t104))))) else (some x3))) else (none)))) else (none)) else (some x3)
def lex_blanks.f (k : Nat) (a0 : ByteArray) : Option (Int) := lex_blanks.l0 k a0 0
set_option maxHeartbeats 4000000 in
set_option maxRecDepth 100000 in
theorem lex_blanks.calls (k : Nat) (a0 : ByteArray) (r : Int) (w : World) (h : lex_blanks.f k a0 = some r) :
    Calls Tryd.prog 12 #[.string a0] w fun e w' => e = .returned (.int .i64 r) ∧ Drawn0 w w' := by
  have H : (lex_blanks.l0 k a0 0) = some r := h
  clear h
  have H' := Aside0.mk H
  clear H
  go_enter Tryd.func12, Tryd.ntmps12
  go_wp2
  go_loopg [3] k (fun kq v3 w' => ∃ (x3_1 : Int), v3 = .int .i64 x3_1 ∧ Aside0 (lex_blanks.l0 kq a0 x3_1 = some r) ∧ Aside0 (kq ≤ k) ∧ Drawn0 w w')
  case atStart => exact ⟨(0), (by first | rfl | (simp; done) | (simp [*]; done)), H', ⟨Nat.le_refl _⟩, by repeat (first | exact Drawn0.refl _ | apply Drawn0.step)⟩
  case round =>
    clear H'
    try clear c1
    obtain ⟨x3_1, rfl, HA, HK1, ⟨m1, rfl⟩⟩ := hrel
    cases gk with
    | zero => exact absurd HA.out (by simp [lex_blanks.l0])
    | succ k1 =>
      have H := HA.out
      clear HA
      simp only [lex_blanks.l0] at H
      by_cases c2 : x3_1 < (a0.size : Int)
      · rw [if_pos c2] at H
        have c2b0 : decide (x3_1 < (a0.size : Int)) = true := decide_eq_true c2
        clear c2
        by_cases c3 : 0 ≤ x3_1
        · rw [if_pos c3] at H
          have c3b0 : decide (0 ≤ x3_1) = true := decide_eq_true c3
          clear c3
          replace H := Option.bind_eq_some_iff.mp H
          obtain ⟨t102, A50, H⟩ := H
          replace H : (if t102 ≥ 0 then (lex_blanks.l0 k1 a0 (wrap64 (x3_1 + 1))) else (if x3_1 ≤ (a0.size : Int) then ((strings_HasPrefix.f (a0.extract (x3_1 : Int).toNat a0.size) (⟨#[47, 47]⟩ : ByteArray)).bind fun t103 => (if t103 = true then ((strings_IndexByte.f (a0.extract (x3_1 : Int).toNat a0.size) 10).bind fun t104 => (if t104 < 0 then (some (a0.size : Int)) else (lex_blanks.l0 k1 a0 (wrap64 (x3_1 + t104))))) else (some x3_1))) else (none))) = some r := H
          have A5 := Aside0.mk A50
          clear A50
          by_cases c6 : t102 ≥ 0
          · rw [if_pos c6] at H
            have c6b0 : decide (0 ≤ t102) = true := decide_eq_true c6
            clear c6
            have H' := Aside0.mk H
            clear H
            have p4 : 0 ≤ (x3_1 : Int) := of_decide_eq_true (by first | (with_reducible assumption) | assumption)
            have q4 : x3_1 < (a0.size : Int) := of_decide_eq_true (by first | (with_reducible assumption) | assumption)
            have hx4 := bt_at a0 x3_1
            replace p4 := eq_true p4
            replace q4 := eq_true q4
            go_wp2_with (first | ((with_reducible refine gate_callee (f := 18) rfl ?_); refine goesL_ (some 14) rfl rfl Tryd.func18 (by kernel_rfl) rfl #[.string (⟨#[9, 10, 13, 32]⟩ : ByteArray), .int .u8 (bt a0 x3_1)] rfl (by (try simp only [List.map_toArray, List.map_cons, List.map_nil]); first | done | rfl | (simp only [List.length_drop, List.length_take]; rfl)) ?_; (with_reducible refine (strings_IndexByte.calls (⟨#[9, 10, 13, 32]⟩ : ByteArray) (bt a0 x3_1) t102 _ A5.out).mono ?_); rintro e w' ⟨rfl, ⟨nd, rfl⟩⟩; refine ⟨_, rfl, ?_⟩))
            go_roundg k1
            case measure => have := HK1.out; omega
            case rel => exact ⟨(wrap64 (x3_1 + 1)), (by first | rfl | (simp; done) | (simp [*]; done)), H', ⟨by have := HK1.out; omega⟩, by repeat (first | exact Drawn0.refl _ | apply Drawn0.step)⟩
          · rw [if_neg c6] at H
            have c6b0 : decide (0 ≤ t102) = false := decide_eq_false c6
            clear c6
            have c7b0 := eq_true (of_decide_eq_true (by first | (with_reducible assumption) | assumption) : 0 ≤ x3_1)
            by_cases c8 : x3_1 ≤ (a0.size : Int)
            · rw [if_pos c8] at H
              have c8b0 := eq_true c8
              have c8b1 : decide (x3_1 ≤ (a0.size : Int)) = true := decide_eq_true c8
              clear c8
              replace H := Option.bind_eq_some_iff.mp H
              obtain ⟨t103, A90, H⟩ := H
              replace H : (if t103 = true then ((strings_IndexByte.f (a0.extract (x3_1 : Int).toNat a0.size) 10).bind fun t104 => (if t104 < 0 then (some (a0.size : Int)) else (lex_blanks.l0 k1 a0 (wrap64 (x3_1 + t104))))) else (some x3_1)) = some r := H
              have A9 := Aside0.mk A90
              clear A90
              by_cases c10 : t103 = true
              · subst c10
                have H1 : ((strings_IndexByte.f (a0.extract (x3_1 : Int).toNat a0.size) 10).bind fun t104 => (if t104 < 0 then (some (a0.size : Int)) else (lex_blanks.l0 k1 a0 (wrap64 (x3_1 + t104))))) = some r := by rw [if_pos rfl] at H; exact H
                clear H
                have H := H1
                clear H1
                have c11b0 := eq_true (of_decide_eq_true (by first | (with_reducible assumption) | assumption) : 0 ≤ x3_1)
                have c12b0 := eq_true (of_decide_eq_true (by first | (with_reducible assumption) | assumption) : x3_1 ≤ (a0.size : Int))
                replace H := Option.bind_eq_some_iff.mp H
                obtain ⟨t104, A130, H⟩ := H
                replace H : (if t104 < 0 then (some (a0.size : Int)) else (lex_blanks.l0 k1 a0 (wrap64 (x3_1 + t104)))) = some r := H
                have A13 := Aside0.mk A130
                clear A130
                by_cases c14 : t104 < 0
                · rw [if_pos c14] at H
                  have c14b0 : decide (t104 < 0) = true := decide_eq_true c14
                  clear c14
                  obtain rfl := Option.some.inj H
                  have p4 : 0 ≤ (x3_1 : Int) := of_decide_eq_true (by first | (with_reducible assumption) | assumption)
                  have q4 : x3_1 < (a0.size : Int) := of_decide_eq_true (by first | (with_reducible assumption) | assumption)
                  have hx4 := bt_at a0 x3_1
                  replace p4 := eq_true p4
                  replace q4 := eq_true q4
                  go_wp2_with (first | ((with_reducible refine gate_callee (f := 18) rfl ?_); refine goesL_ (some 14) rfl rfl Tryd.func18 (by kernel_rfl) rfl #[.string (⟨#[9, 10, 13, 32]⟩ : ByteArray), .int .u8 (bt a0 x3_1)] rfl (by (try simp only [List.map_toArray, List.map_cons, List.map_nil]); first | done | rfl | (simp only [List.length_drop, List.length_take]; rfl)) ?_; (with_reducible refine (strings_IndexByte.calls (⟨#[9, 10, 13, 32]⟩ : ByteArray) (bt a0 x3_1) t102 _ A5.out).mono ?_); rintro e w' ⟨rfl, ⟨nd, rfl⟩⟩; refine ⟨_, rfl, ?_⟩) | ((with_reducible refine gate_callee (f := 19) rfl ?_); refine goesL_ (some 22) rfl rfl Tryd.func19 (by kernel_rfl) rfl #[.string (a0.extract (x3_1 : Int).toNat a0.size), .string (⟨#[47, 47]⟩ : ByteArray)] rfl (by (try simp only [List.map_toArray, List.map_cons, List.map_nil]); first | done | rfl | (simp only [List.length_drop, List.length_take]; rfl)) ?_; (with_reducible refine (strings_HasPrefix.calls (a0.extract (x3_1 : Int).toNat a0.size) (⟨#[47, 47]⟩ : ByteArray) true _ A9.out).mono ?_); rintro e w' ⟨rfl, ⟨nd, rfl⟩⟩; refine ⟨_, rfl, ?_⟩) | ((with_reducible refine gate_callee (f := 18) rfl ?_); refine goesL_ (some 26) rfl rfl Tryd.func18 (by kernel_rfl) rfl #[.string (a0.extract (x3_1 : Int).toNat a0.size), .int .u8 10] rfl (by (try simp only [List.map_toArray, List.map_cons, List.map_nil]); first | done | rfl | (simp only [List.length_drop, List.length_take]; rfl)) ?_; (with_reducible refine (strings_IndexByte.calls (a0.extract (x3_1 : Int).toNat a0.size) 10 t104 _ A13.out).mono ?_); rintro e w' ⟨rfl, ⟨nd, rfl⟩⟩; refine ⟨_, rfl, ?_⟩))
                  go_ret
                  exact ⟨by first | rfl | (simp; done) | (simp [*]; done), by repeat (first | exact Drawn0.refl _ | apply Drawn0.step)⟩
                · rw [if_neg c14] at H
                  have c14b0 : decide (t104 < 0) = false := decide_eq_false c14
                  clear c14
                  have H' := Aside0.mk H
                  clear H
                  have p4 : 0 ≤ (x3_1 : Int) := of_decide_eq_true (by first | (with_reducible assumption) | assumption)
                  have q4 : x3_1 < (a0.size : Int) := of_decide_eq_true (by first | (with_reducible assumption) | assumption)
                  have hx4 := bt_at a0 x3_1
                  replace p4 := eq_true p4
                  replace q4 := eq_true q4
                  go_wp2_with (first | ((with_reducible refine gate_callee (f := 18) rfl ?_); refine goesL_ (some 14) rfl rfl Tryd.func18 (by kernel_rfl) rfl #[.string (⟨#[9, 10, 13, 32]⟩ : ByteArray), .int .u8 (bt a0 x3_1)] rfl (by (try simp only [List.map_toArray, List.map_cons, List.map_nil]); first | done | rfl | (simp only [List.length_drop, List.length_take]; rfl)) ?_; (with_reducible refine (strings_IndexByte.calls (⟨#[9, 10, 13, 32]⟩ : ByteArray) (bt a0 x3_1) t102 _ A5.out).mono ?_); rintro e w' ⟨rfl, ⟨nd, rfl⟩⟩; refine ⟨_, rfl, ?_⟩) | ((with_reducible refine gate_callee (f := 19) rfl ?_); refine goesL_ (some 22) rfl rfl Tryd.func19 (by kernel_rfl) rfl #[.string (a0.extract (x3_1 : Int).toNat a0.size), .string (⟨#[47, 47]⟩ : ByteArray)] rfl (by (try simp only [List.map_toArray, List.map_cons, List.map_nil]); first | done | rfl | (simp only [List.length_drop, List.length_take]; rfl)) ?_; (with_reducible refine (strings_HasPrefix.calls (a0.extract (x3_1 : Int).toNat a0.size) (⟨#[47, 47]⟩ : ByteArray) true _ A9.out).mono ?_); rintro e w' ⟨rfl, ⟨nd, rfl⟩⟩; refine ⟨_, rfl, ?_⟩) | ((with_reducible refine gate_callee (f := 18) rfl ?_); refine goesL_ (some 26) rfl rfl Tryd.func18 (by kernel_rfl) rfl #[.string (a0.extract (x3_1 : Int).toNat a0.size), .int .u8 10] rfl (by (try simp only [List.map_toArray, List.map_cons, List.map_nil]); first | done | rfl | (simp only [List.length_drop, List.length_take]; rfl)) ?_; (with_reducible refine (strings_IndexByte.calls (a0.extract (x3_1 : Int).toNat a0.size) 10 t104 _ A13.out).mono ?_); rintro e w' ⟨rfl, ⟨nd, rfl⟩⟩; refine ⟨_, rfl, ?_⟩))
                  go_roundg k1
                  case measure => have := HK1.out; omega
                  case rel => exact ⟨(wrap64 (x3_1 + t104)), (by first | rfl | (simp; done) | (simp [*]; done)), H', ⟨by have := HK1.out; omega⟩, by repeat (first | exact Drawn0.refl _ | apply Drawn0.step)⟩
              · replace c10 := Bool.eq_false_iff.mpr c10
                subst c10
                have H1 : (some x3_1) = some r := by rw [if_neg (show ¬ (false = true) by decide)] at H; exact H
                clear H
                have H := H1
                clear H1
                obtain rfl := Option.some.inj H
                have p4 : 0 ≤ (x3_1 : Int) := of_decide_eq_true (by first | (with_reducible assumption) | assumption)
                have q4 : x3_1 < (a0.size : Int) := of_decide_eq_true (by first | (with_reducible assumption) | assumption)
                have hx4 := bt_at a0 x3_1
                replace p4 := eq_true p4
                replace q4 := eq_true q4
                go_wp2_with (first | ((with_reducible refine gate_callee (f := 18) rfl ?_); refine goesL_ (some 14) rfl rfl Tryd.func18 (by kernel_rfl) rfl #[.string (⟨#[9, 10, 13, 32]⟩ : ByteArray), .int .u8 (bt a0 x3_1)] rfl (by (try simp only [List.map_toArray, List.map_cons, List.map_nil]); first | done | rfl | (simp only [List.length_drop, List.length_take]; rfl)) ?_; (with_reducible refine (strings_IndexByte.calls (⟨#[9, 10, 13, 32]⟩ : ByteArray) (bt a0 x3_1) t102 _ A5.out).mono ?_); rintro e w' ⟨rfl, ⟨nd, rfl⟩⟩; refine ⟨_, rfl, ?_⟩) | ((with_reducible refine gate_callee (f := 19) rfl ?_); refine goesL_ (some 22) rfl rfl Tryd.func19 (by kernel_rfl) rfl #[.string (a0.extract (x3_1 : Int).toNat a0.size), .string (⟨#[47, 47]⟩ : ByteArray)] rfl (by (try simp only [List.map_toArray, List.map_cons, List.map_nil]); first | done | rfl | (simp only [List.length_drop, List.length_take]; rfl)) ?_; (with_reducible refine (strings_HasPrefix.calls (a0.extract (x3_1 : Int).toNat a0.size) (⟨#[47, 47]⟩ : ByteArray) false _ A9.out).mono ?_); rintro e w' ⟨rfl, ⟨nd, rfl⟩⟩; refine ⟨_, rfl, ?_⟩))
                go_ret
                exact ⟨by first | rfl | (simp; done) | (simp [*]; done), by repeat (first | exact Drawn0.refl _ | apply Drawn0.step)⟩
            · rw [if_neg c8] at H
              exact absurd H (by simp)
        · rw [if_neg c3] at H
          exact absurd H (by simp)
      · rw [if_neg c2] at H
        have c2b0 : decide (x3_1 < (a0.size : Int)) = false := decide_eq_false c2
        clear c2
        obtain rfl := Option.some.inj H
        go_wp2
        go_ret
        exact ⟨by first | rfl | (simp; done) | (simp [*]; done), by repeat (first | exact Drawn0.refl _ | apply Drawn0.step)⟩
def lex_letter.f (a0 : Int) : Option (Bool) := if a0 ≥ 97 then (if a0 ≤ 122 then (some true) else (if a0 ≥ 65 then (some (decide (a0 ≤ 90))) else (some false))) else (if a0 ≥ 65 then (some (decide (a0 ≤ 90))) else (some false))
set_option maxHeartbeats 4000000 in
set_option maxRecDepth 100000 in
theorem lex_letter.calls (a0 : Int) (r : Bool) (w : World) (h : lex_letter.f a0 = some r) :
    Calls Tryd.prog 20 #[.int .u8 a0] w fun e w' => e = .returned (.bool r) ∧ Drawn0 w w' := by
  have H : (if a0 ≥ 97 then (if a0 ≤ 122 then (some true) else (if a0 ≥ 65 then (some (decide (a0 ≤ 90))) else (some false))) else (if a0 ≥ 65 then (some (decide (a0 ≤ 90))) else (some false))) = some r := h
  clear h
  by_cases c2 : a0 ≥ 97
  · rw [if_pos c2] at H
    have c2b0 : decide (97 ≤ a0) = true := decide_eq_true c2
    clear c2
    by_cases c3 : a0 ≤ 122
    · rw [if_pos c3] at H
      have c3b0 : decide (a0 ≤ 122) = true := decide_eq_true c3
      clear c3
      obtain rfl := Option.some.inj H
      go_enter Tryd.func20, Tryd.ntmps20
      go_wp2
      go_ret
      exact ⟨by first | rfl | (simp; done) | (simp [*]; done), by repeat (first | exact Drawn0.refl _ | apply Drawn0.step)⟩
    · rw [if_neg c3] at H
      have c3b0 : decide (a0 ≤ 122) = false := decide_eq_false c3
      clear c3
      by_cases c4 : a0 ≥ 65
      · rw [if_pos c4] at H
        have c4b0 : decide (65 ≤ a0) = true := decide_eq_true c4
        clear c4
        obtain rfl := Option.some.inj H
        go_enter Tryd.func20, Tryd.ntmps20
        go_wp2
        go_ret
        exact ⟨by first | rfl | (simp; done) | (simp [*]; done), by repeat (first | exact Drawn0.refl _ | apply Drawn0.step)⟩
      · rw [if_neg c4] at H
        have c4b0 : decide (65 ≤ a0) = false := decide_eq_false c4
        clear c4
        obtain rfl := Option.some.inj H
        go_enter Tryd.func20, Tryd.ntmps20
        go_wp2
        go_ret
        exact ⟨by first | rfl | (simp; done) | (simp [*]; done), by repeat (first | exact Drawn0.refl _ | apply Drawn0.step)⟩
  · rw [if_neg c2] at H
    have c2b0 : decide (97 ≤ a0) = false := decide_eq_false c2
    clear c2
    by_cases c5 : a0 ≥ 65
    · rw [if_pos c5] at H
      have c5b0 : decide (65 ≤ a0) = true := decide_eq_true c5
      clear c5
      obtain rfl := Option.some.inj H
      go_enter Tryd.func20, Tryd.ntmps20
      go_wp2
      go_ret
      exact ⟨by first | rfl | (simp; done) | (simp [*]; done), by repeat (first | exact Drawn0.refl _ | apply Drawn0.step)⟩
    · rw [if_neg c5] at H
      have c5b0 : decide (65 ≤ a0) = false := decide_eq_false c5
      clear c5
      obtain rfl := Option.some.inj H
      go_enter Tryd.func20, Tryd.ntmps20
      go_wp2
      go_ret
      exact ⟨by first | rfl | (simp; done) | (simp [*]; done), by repeat (first | exact Drawn0.refl _ | apply Drawn0.step)⟩
def lex_digit.f (a0 : Int) : Option (Bool) := if a0 ≥ 48 then (some (decide (a0 ≤ 57))) else (some false)
set_option maxHeartbeats 4000000 in
set_option maxRecDepth 100000 in
theorem lex_digit.calls (a0 : Int) (r : Bool) (w : World) (h : lex_digit.f a0 = some r) :
    Calls Tryd.prog 23 #[.int .u8 a0] w fun e w' => e = .returned (.bool r) ∧ Drawn0 w w' := by
  have H : (if a0 ≥ 48 then (some (decide (a0 ≤ 57))) else (some false)) = some r := h
  clear h
  by_cases c2 : a0 ≥ 48
  · rw [if_pos c2] at H
    have c2b0 : decide (48 ≤ a0) = true := decide_eq_true c2
    clear c2
    obtain rfl := Option.some.inj H
    go_enter Tryd.func23, Tryd.ntmps23
    go_wp2
    go_ret
    exact ⟨by first | rfl | (simp; done) | (simp [*]; done), by repeat (first | exact Drawn0.refl _ | apply Drawn0.step)⟩
  · rw [if_neg c2] at H
    have c2b0 : decide (48 ≤ a0) = false := decide_eq_false c2
    clear c2
    obtain rfl := Option.some.inj H
    go_enter Tryd.func23, Tryd.ntmps23
    go_wp2
    go_ret
    exact ⟨by first | rfl | (simp; done) | (simp [*]; done), by repeat (first | exact Drawn0.refl _ | apply Drawn0.step)⟩
end Go.Proofs.YtdjcechogbcdnaaDoor.XL
namespace Go.Proofs.YtdjcechogbcdnaaDoor.XL
open Go.RowKit Go.Proofs.YtdjcechogbcdnaaDoorW.PrintWords Go.Proofs.YtdjcechogbcdnaaDoorW.PrintLast Go.Proofs.YtdjcechogbcdnaaDoorW.PrintMore
attribute [local go_sem] max2_int min2_int max_two min_two max_three min_three max_four min_four   -- for this text's walks alone
set_option linter.unusedVariables false
set_option linter.unusedSimpArgs false
def lex_run.l0 : Nat → ByteArray → Int → Option (Int)
  | 0, _, _ => none
  | k + 1, x0, x3 => if x3 < (x0.size : Int) then (if 0 ≤ x3 then ((lex_letter.f (bt x0 x3)).bind fun t105 => (if t105 = true then (lex_run.l0 k x0 (wrap64 (x3 + 1))) else ((lex_digit.f (bt x0 x3)).bind fun t106 => (if t106 = true then (lex_run.l0 k x0 (wrap64 (x3 + 1))) else (if (bt x0 x3) = 95 then (lex_run.l0 k x0 (wrap64 (x3 + 1))) else (some x3)))))) else (none)) else (some x3)
def lex_run.f (k : Nat) (a0 : ByteArray) : Option (Int) := lex_run.l0 k a0 0
set_option maxHeartbeats 4000000 in
set_option maxRecDepth 100000 in
theorem lex_run.calls (k : Nat) (a0 : ByteArray) (r : Int) (w : World) (h : lex_run.f k a0 = some r) :
    Calls Tryd.prog 21 #[.string a0] w fun e w' => e = .returned (.int .i64 r) ∧ Drawn0 w w' := by
  have H : (lex_run.l0 k a0 0) = some r := h
  clear h
  have H' := Aside0.mk H
  clear H
  go_enter Tryd.func21, Tryd.ntmps21
  go_wp2
  go_loopg [3] k (fun kq v3 w' => ∃ (x3_1 : Int), v3 = .int .i64 x3_1 ∧ Aside0 (lex_run.l0 kq a0 x3_1 = some r) ∧ Aside0 (kq ≤ k) ∧ Drawn0 w w')
  case atStart => exact ⟨(0), (by first | rfl | (simp; done) | (simp [*]; done)), H', ⟨Nat.le_refl _⟩, by repeat (first | exact Drawn0.refl _ | apply Drawn0.step)⟩
  case round =>
    clear H'
    obtain ⟨x3_1, rfl, HA, HK1, ⟨m1, rfl⟩⟩ := hrel
    cases gk with
    | zero => exact absurd HA.out (by simp [lex_run.l0])
    | succ k1 =>
      have H := HA.out
      clear HA
      simp only [lex_run.l0] at H
      by_cases c2 : x3_1 < (a0.size : Int)
      · rw [if_pos c2] at H
        have c2b0 : decide (x3_1 < (a0.size : Int)) = true := decide_eq_true c2
        clear c2
        by_cases c3 : 0 ≤ x3_1
        · rw [if_pos c3] at H
          have c3b0 : decide (0 ≤ x3_1) = true := decide_eq_true c3
          clear c3
          replace H := Option.bind_eq_some_iff.mp H
          obtain ⟨t105, A50, H⟩ := H
          replace H : (if t105 = true then (lex_run.l0 k1 a0 (wrap64 (x3_1 + 1))) else ((lex_digit.f (bt a0 x3_1)).bind fun t106 => (if t106 = true then (lex_run.l0 k1 a0 (wrap64 (x3_1 + 1))) else (if (bt a0 x3_1) = 95 then (lex_run.l0 k1 a0 (wrap64 (x3_1 + 1))) else (some x3_1))))) = some r := H
          have A5 := Aside0.mk A50
          clear A50
          by_cases c6 : t105 = true
          · subst c6
            have H1 : (lex_run.l0 k1 a0 (wrap64 (x3_1 + 1))) = some r := by rw [if_pos rfl] at H; exact H
            clear H
            have H := H1
            clear H1
            have H' := Aside0.mk H
            clear H
            have p4 : 0 ≤ (x3_1 : Int) := of_decide_eq_true (by first | (with_reducible assumption) | assumption)
            have q4 : x3_1 < (a0.size : Int) := of_decide_eq_true (by first | (with_reducible assumption) | assumption)
            have hx4 := bt_at a0 x3_1
            replace p4 := eq_true p4
            replace q4 := eq_true q4
            go_wp2_with (first | (go_at_call 20; refine calls_of_args (args' := #[.int .u8 (bt a0 x3_1)]) (by first | rfl) ?_; (with_reducible refine (lex_letter.calls (bt a0 x3_1) true _ A5.out).mono ?_); rintro e w' ⟨rfl, ⟨nd, rfl⟩⟩))
            go_roundg k1
            case measure => have := HK1.out; omega
            case rel => exact ⟨(wrap64 (x3_1 + 1)), (by first | rfl | (simp; done) | (simp [*]; done)), H', ⟨by have := HK1.out; omega⟩, by repeat (first | exact Drawn0.refl _ | apply Drawn0.step)⟩
          · replace c6 := Bool.eq_false_iff.mpr c6
            subst c6
            have H1 : ((lex_digit.f (bt a0 x3_1)).bind fun t106 => (if t106 = true then (lex_run.l0 k1 a0 (wrap64 (x3_1 + 1))) else (if (bt a0 x3_1) = 95 then (lex_run.l0 k1 a0 (wrap64 (x3_1 + 1))) else (some x3_1)))) = some r := by rw [if_neg (show ¬ (false = true) by decide)] at H; exact H
            clear H
            have H := H1
            clear H1
            replace H := Option.bind_eq_some_iff.mp H
            obtain ⟨t106, A80, H⟩ := H
            replace H : (if t106 = true then (lex_run.l0 k1 a0 (wrap64 (x3_1 + 1))) else (if (bt a0 x3_1) = 95 then (lex_run.l0 k1 a0 (wrap64 (x3_1 + 1))) else (some x3_1))) = some r := H
            have A8 := Aside0.mk A80
            clear A80
            by_cases c9 : t106 = true
            · subst c9
              have H1 : (lex_run.l0 k1 a0 (wrap64 (x3_1 + 1))) = some r := by rw [if_pos rfl] at H; exact H
              clear H
              have H := H1
              clear H1
              have H' := Aside0.mk H
              clear H
              have p4 : 0 ≤ (x3_1 : Int) := of_decide_eq_true (by first | (with_reducible assumption) | assumption)
              have q4 : x3_1 < (a0.size : Int) := of_decide_eq_true (by first | (with_reducible assumption) | assumption)
              have hx4 := bt_at a0 x3_1
              replace p4 := eq_true p4
              replace q4 := eq_true q4
              go_wp2_with (first | (go_at_call 20; refine calls_of_args (args' := #[.int .u8 (bt a0 x3_1)]) (by first | rfl) ?_; (with_reducible refine (lex_letter.calls (bt a0 x3_1) false _ A5.out).mono ?_); rintro e w' ⟨rfl, ⟨nd, rfl⟩⟩; have p7 : 0 ≤ (x3_1 : Int) := of_decide_eq_true (by first | (with_reducible assumption) | assumption); have q7 : x3_1 < (a0.size : Int) := of_decide_eq_true (by first | (with_reducible assumption) | assumption); have hx7 := bt_at a0 x3_1; replace p7 := eq_true p7; replace q7 := eq_true q7) | (go_at_call 23; refine calls_of_args (args' := #[.int .u8 (bt a0 x3_1)]) (by first | rfl) ?_; (with_reducible refine (lex_digit.calls (bt a0 x3_1) true _ A8.out).mono ?_); rintro e w' ⟨rfl, ⟨nd, rfl⟩⟩))
              go_roundg k1
              case measure => have := HK1.out; omega
              case rel => exact ⟨(wrap64 (x3_1 + 1)), (by first | rfl | (simp; done) | (simp [*]; done)), H', ⟨by have := HK1.out; omega⟩, by repeat (first | exact Drawn0.refl _ | apply Drawn0.step)⟩
            · replace c9 := Bool.eq_false_iff.mpr c9
              subst c9
              have H1 : (if (bt a0 x3_1) = 95 then (lex_run.l0 k1 a0 (wrap64 (x3_1 + 1))) else (some x3_1)) = some r := by rw [if_neg (show ¬ (false = true) by decide)] at H; exact H
              clear H
              have H := H1
              clear H1
              by_cases c11 : (bt a0 x3_1) = 95
              · rw [if_pos c11] at H
                have c11b0 : ((bt a0 x3_1) == 95) = true := beq_iff_eq.mpr c11
                have c11b1 : ((bt a0 x3_1) != 95) = false := bne_eq_false_iff_eq.mpr c11
                clear c11
                have H' := Aside0.mk H
                clear H
                have p4 : 0 ≤ (x3_1 : Int) := of_decide_eq_true (by first | (with_reducible assumption) | assumption)
                have q4 : x3_1 < (a0.size : Int) := of_decide_eq_true (by first | (with_reducible assumption) | assumption)
                have hx4 := bt_at a0 x3_1
                replace p4 := eq_true p4
                replace q4 := eq_true q4
                go_wp2_with (first | (go_at_call 20; refine calls_of_args (args' := #[.int .u8 (bt a0 x3_1)]) (by first | rfl) ?_; (with_reducible refine (lex_letter.calls (bt a0 x3_1) false _ A5.out).mono ?_); rintro e w' ⟨rfl, ⟨nd, rfl⟩⟩; have p7 : 0 ≤ (x3_1 : Int) := of_decide_eq_true (by first | (with_reducible assumption) | assumption); have q7 : x3_1 < (a0.size : Int) := of_decide_eq_true (by first | (with_reducible assumption) | assumption); have hx7 := bt_at a0 x3_1; replace p7 := eq_true p7; replace q7 := eq_true q7) | (go_at_call 23; refine calls_of_args (args' := #[.int .u8 (bt a0 x3_1)]) (by first | rfl) ?_; (with_reducible refine (lex_digit.calls (bt a0 x3_1) false _ A8.out).mono ?_); rintro e w' ⟨rfl, ⟨nd, rfl⟩⟩; have p10 : 0 ≤ (x3_1 : Int) := of_decide_eq_true (by first | (with_reducible assumption) | assumption); have q10 : x3_1 < (a0.size : Int) := of_decide_eq_true (by first | (with_reducible assumption) | assumption); have hx10 := bt_at a0 x3_1; replace p10 := eq_true p10; replace q10 := eq_true q10))
                go_roundg k1
                case measure => have := HK1.out; omega
                case rel => exact ⟨(wrap64 (x3_1 + 1)), (by first | rfl | (simp; done) | (simp [*]; done)), H', ⟨by have := HK1.out; omega⟩, by repeat (first | exact Drawn0.refl _ | apply Drawn0.step)⟩
              · rw [if_neg c11] at H
                have c11b0 : ((bt a0 x3_1) == 95) = false := beq_eq_false_iff_ne.mpr c11
                have c11b1 : ((bt a0 x3_1) != 95) = true := bne_iff_ne.mpr c11
                obtain rfl := Option.some.inj H
                have p4 : 0 ≤ (x3_1 : Int) := of_decide_eq_true (by first | (with_reducible assumption) | assumption)
                have q4 : x3_1 < (a0.size : Int) := of_decide_eq_true (by first | (with_reducible assumption) | assumption)
                have hx4 := bt_at a0 x3_1
                replace p4 := eq_true p4
                replace q4 := eq_true q4
                go_wp2_with (first | (go_at_call 20; refine calls_of_args (args' := #[.int .u8 (bt a0 x3_1)]) (by first | rfl) ?_; (with_reducible refine (lex_letter.calls (bt a0 x3_1) false _ A5.out).mono ?_); rintro e w' ⟨rfl, ⟨nd, rfl⟩⟩; have p7 : 0 ≤ (x3_1 : Int) := of_decide_eq_true (by first | (with_reducible assumption) | assumption); have q7 : x3_1 < (a0.size : Int) := of_decide_eq_true (by first | (with_reducible assumption) | assumption); have hx7 := bt_at a0 x3_1; replace p7 := eq_true p7; replace q7 := eq_true q7) | (go_at_call 23; refine calls_of_args (args' := #[.int .u8 (bt a0 x3_1)]) (by first | rfl) ?_; (with_reducible refine (lex_digit.calls (bt a0 x3_1) false _ A8.out).mono ?_); rintro e w' ⟨rfl, ⟨nd, rfl⟩⟩; have p10 : 0 ≤ (x3_1 : Int) := of_decide_eq_true (by first | (with_reducible assumption) | assumption); have q10 : x3_1 < (a0.size : Int) := of_decide_eq_true (by first | (with_reducible assumption) | assumption); have hx10 := bt_at a0 x3_1; replace p10 := eq_true p10; replace q10 := eq_true q10))
                go_ret
                exact ⟨by first | rfl | (simp; done) | (simp [*]; done), by repeat (first | exact Drawn0.refl _ | apply Drawn0.step)⟩
        · rw [if_neg c3] at H
          exact absurd H (by simp)
      · rw [if_neg c2] at H
        have c2b0 : decide (x3_1 < (a0.size : Int)) = false := decide_eq_false c2
        clear c2
        obtain rfl := Option.some.inj H
        go_wp2
        go_ret
        exact ⟨by first | rfl | (simp; done) | (simp [*]; done), by repeat (first | exact Drawn0.refl _ | apply Drawn0.step)⟩
def letterB (c : Int) : Bool := decide (97 ≤ c ∧ c ≤ 122) || decide (65 ≤ c ∧ c ≤ 90)
def okAt (i : Nat) (c : Int) : Bool := letterB c || (decide (i ≠ 0) && (decide (c = 95) || decide (48 ≤ c ∧ c ≤ 57)))
def nameB (s : ByteArray) : Bool := decide (0 < s.size ∧ s.size ≤ 24) && (List.range s.size).all fun i => okAt i (bt s i)
def value_Name.f (a0 : ByteArray) : Option Bool := some (nameB a0)
theorem nm_toList_len (s : ByteArray) : s.toList.length = s.size := by
  rw [ByteArray.toList_eq]; simp
theorem okAt_true {i : Nat} {c : Int} (h : okAt i c = true) : (97 ≤ c ∧ c ≤ 122) ∨ (65 ≤ c ∧ c ≤ 90) ∨ (0 < i ∧ 95 ≤ c ∧ c ≤ 95) ∨ (0 < i ∧ 48 ≤ c ∧ c ≤ 57) := by
  unfold okAt letterB at h
  simp at h
  omega
theorem okAt_false {i : Nat} {c : Int} (h : okAt i c = false) : ¬ (97 ≤ c ∧ c ≤ 122) ∧ ¬ (65 ≤ c ∧ c ≤ 90) ∧ (i = 0 ∨ ¬ (95 ≤ c ∧ c ≤ 95) ∧ ¬ (48 ≤ c ∧ c ≤ 57)) := by
  unfold okAt letterB at h
  simp at h
  omega
theorem okAt_big {i : Nat} {c : Int} (h : 128 ≤ c) : okAt i c = false := by
  unfold okAt letterB
  simp
  omega
theorem nameB_no {s : ByteArray} {i : Nat} (h : i < s.size) (hk : okAt i (bt s i) = false) : nameB s = false := by
  unfold nameB
  rw [Bool.and_eq_false_iff]
  right
  rw [List.all_eq_false]
  exact ⟨i, List.mem_range.2 h, by simp [hk]⟩
theorem nameB_yes {s : ByteArray} (h0 : 0 < s.size) (h1 : s.size ≤ 24) (h : ∀ i, i < s.size → okAt i (bt s i) = true) : nameB s = true := by
  unfold nameB
  rw [Bool.and_eq_true]
  exact ⟨decide_eq_true ⟨h0, h1⟩, List.all_eq_true.2 fun i hi => h i (List.mem_range.1 hi)⟩
theorem nm_bt_at (s : ByteArray) (i : Nat) (h : i < s.size) : bt s i = ((s[i]'h).toNat : Int) := by
  unfold bt; simp [h]
theorem nm_below_iter (w : World) (s : ByteArray) (p : Nat) : Below w.heap.size w (w.iter s p) := by
  unfold World.iter
  exact below_alloc (Below.refl _ _) _
set_option maxHeartbeats 1000000 in
set_option maxRecDepth 100000 in
theorem value_Name.calls (a0 : ByteArray) (r : Bool) (w : World) (h : value_Name.f a0 = some r) :
    Calls Tryd.prog 22 #[.string a0] w fun e w' => e = .returned (.bool r) ∧ Below w.heap.size w w' := by
  obtain rfl := Option.some.inj h
  clear h
  by_cases h0 : a0.size = 0
  · have e1 : nameB a0 = false := by unfold nameB; simp [h0]
    rw [e1]
    have e2 : a0.toList = [] := by
      have : a0.toList.length = 0 := nm_toList_len a0 ▸ h0
      exact List.length_eq_zero_iff.1 this
    go_enter Tryd.func22, Tryd.ntmps22
    go_wp2
    go_ret
    exact ⟨rfl, Below.refl _ _⟩
  · have e2 : a0.toList ≠ [] := by
      intro e
      have : a0.toList.length = 0 := by rw [e]; rfl
      rw [nm_toList_len] at this
      exact h0 this
    have e3 : a0.toList.isEmpty = false := by cases h : a0.toList with | nil => exact absurd h e2 | cons _ _ => rfl
    have e4 : (!a0.toList.isEmpty) = true := by rw [e3]; rfl
    by_cases h1 : 24 < a0.size
    · have e1 : nameB a0 = false := by unfold nameB; simp; omega
      rw [e1]
      clear e2
      go_enter Tryd.func22, Tryd.ntmps22
      go_wp2
      go_ret
      exact ⟨rfl, Below.refl _ _⟩
    · have hle : a0.size ≤ 24 := by omega
      have hpos : 0 < a0.size := by omega
      clear e2 h0 h1
      go_enter Tryd.func22, Tryd.ntmps22
      go_wp2
      go_loopw [] (fun w' => ∃ pos : Nat, pos ≤ a0.size ∧ w' = w.iter a0 pos ∧ Aside0 (∀ j, j < pos → okAt j (bt a0 j) = true)) (fun w' => a0.size - w'.iterPos w.heap.size)
      case atStart => exact ⟨0, Nat.zero_le _, rfl, ⟨fun j hj => absurd hj (Nat.not_lt_zero _)⟩⟩
      case round =>
        obtain ⟨pos, hpz, rfl, HA⟩ := hrel
        by_cases hp : pos < a0.size
        · have hnx : ∀ ty, (Instr.next (.pointer (some ⟨w.heap.size, 0, none⟩)) true ty).run Tryd.prog (w.iter a0 pos) = _ := fun ty => run_next_any w a0 pos ty hp
          by_cases ha : (a0[pos]'hp).toNat < 128
          · rw [decode_ascii a0 pos hp ha] at hnx
            have hb := nm_bt_at a0 pos hp
            obtain ⟨c, hc⟩ : ∃ c : Nat, c = (a0[pos]'hp).toNat := ⟨_, rfl⟩
            rw [← hc] at hnx hb ha
            clear hc
            have HB := Aside0.mk hb
            clear hb
            cases hk : okAt pos (c : Int) with
            | true =>
              rcases okAt_true hk with ⟨k1, k2⟩ | ⟨k1, k2⟩ | ⟨k0, k1, k2⟩ | ⟨k0, k1, k2⟩
              all_goals
                have HK := Aside0.mk hk
                clear hk
                have HA' : Aside0 (∀ j, j < pos + 1 → okAt j (bt a0 j) = true) := ⟨fun j hj => by
                  rcases Nat.lt_or_ge j pos with hlt | hge
                  · exact HA.out j hlt
                  · have e : j = pos := by omega
                    rw [e, HB.out]; exact HK.out⟩
                go_wp2
                all_goals first
                  | exact ⟨⟨pos + 1, by omega, rfl, HA'⟩, by simp; omega⟩
                  | (exfalso; simp at *; omega)
            | false =>
              obtain ⟨k1, k2, k3⟩ := okAt_false hk
              have HN : Aside0 (nameB a0 = false) := ⟨nameB_no hp (by rw [HB.out]; exact hk)⟩
              clear hk
              rcases k3 with k3 | ⟨k3, k4⟩
              · subst k3
                go_wp2
                all_goals (first | (go_ret; exact ⟨by rw [HN.out]; rfl, nm_below_iter _ _ _⟩) | (exfalso; simp at *; omega))
              · go_wp2
                all_goals (first | (go_ret; exact ⟨by rw [HN.out]; rfl, nm_below_iter _ _ _⟩) | (exfalso; simp at *; omega))
          · obtain ⟨hd1, hd2⟩ := decode_high a0 pos hp (by omega)
            have hb := nm_bt_at a0 pos hp
            have HN : Aside0 (nameB a0 = false) := ⟨nameB_no hp (okAt_big (by rw [hb]; omega))⟩
            obtain ⟨d, hd⟩ : ∃ d, Utf8.decode a0 pos = d := ⟨_, rfl⟩
            rw [hd] at hnx hd1 hd2
            obtain ⟨c, k⟩ := d
            clear hd hb ha
            go_wp2
            all_goals (first | (go_ret; exact ⟨by rw [HN.out]; rfl, nm_below_iter _ _ _⟩) | (exfalso; simp at *; omega))
        · have hnx : ∀ ty, (Instr.next (.pointer (some ⟨w.heap.size, 0, none⟩)) true ty).run Tryd.prog (w.iter a0 pos) = _ := fun ty => run_next_end w a0 pos ty hp
          have HY : Aside0 (nameB a0 = true) := ⟨nameB_yes hpos hle (fun i hi => HA.out i (by omega))⟩
          go_wp2
          go_ret
          exact ⟨by rw [HY.out]; rfl, nm_below_iter _ _ _⟩
/-- What strconv.ParseInt(s, 10, 64) answers: the number, or some error. -/
def strconv_ParseInt.f (a0 : ByteArray) (a1 a2 : Int) : Option (Int × Option Int) := if a1 = 10 then (if a2 = 64 then (if a0.size ≤ 140737488355328 then (match Lib.parseIntB 64 a0.data.toList with | .ok v => some (v, none) | .range => some (Lib.intSat 64 a0.data.toList, some 0) | .«syntax» => some (0, some 0)) else none) else none) else none
/-- An error's value: none, or a pointer to one. -/
def ErrV (e : Option Int) (v : Value) : Prop := match e with | none => v = .nilIface | some _ => ∃ N, v = .iface 80 (.pointer (some ⟨N, 0, none⟩))
theorem strconv_ParseInt.calls (a0 : ByteArray) (a1 a2 : Int) (r1 : Int) (r2 : Option Int) (w : World) (h : strconv_ParseInt.f a0 a1 a2 = some (r1, r2)) (hT : Tabs w) :
    Calls Tryd.prog 24 #[.string a0, .int .i64 a1, .int .i64 a2] w fun e w' => (∃ ev, ErrV r2 ev ∧ e = .returned (.tuple #[.int .i64 r1, ev])) ∧ Below w.heap.size w w' := by
  unfold strconv_ParseInt.f at h
  by_cases h1 : a1 = 10
  · rw [if_pos h1] at h
    subst h1
    by_cases h2 : a2 = 64
    · rw [if_pos h2] at h
      subst h2
      by_cases h3 : a0.size ≤ 140737488355328
      · rw [if_pos h3] at h
        cases hp : Lib.parseIntB 64 a0.data.toList with
        | ok v =>
          rw [hp] at h
          obtain ⟨rfl, rfl⟩ := Prod.mk.inj (Option.some.inj h)
          exact (Tryd.strconv_ParseInt_10_at64_ok a0 (by omega) v hp w).mono fun e w' ⟨he, hw⟩ => ⟨⟨_, rfl, he⟩, by
            rcases hw with rfl | ⟨t, rfl⟩
            · exact Below.refl _ _
            · exact Go.Joins.below_bytesWorld _ _ _ _ (Nat.le_refl _)⟩
        | range =>
          rw [hp] at h
          obtain ⟨rfl, rfl⟩ := Prod.mk.inj (Option.some.inj h)
          obtain ⟨tp, p, hv⟩ := hT.range
          exact (Tryd.strconv_ParseInt_10_at64_range_var a0 (by omega) hp tp p w hv).mono fun e w' ⟨N, he, _, _, hb⟩ => ⟨⟨_, ⟨N, rfl⟩, he⟩, hb⟩
        | «syntax» =>
          rw [hp] at h
          obtain ⟨rfl, rfl⟩ := Prod.mk.inj (Option.some.inj h)
          obtain ⟨tp, p, hv⟩ := hT.syntax_
          exact (Tryd.strconv_ParseInt_10_at64_syntax_var a0 (by omega) hp tp p w hv).mono fun e w' ⟨N, he, _, _, hb⟩ => ⟨⟨_, ⟨N, rfl⟩, he⟩, hb⟩
      · rw [if_neg h3] at h; cases h
    · rw [if_neg h2] at h; cases h
  · rw [if_neg h1] at h; cases h
def strings_Join.f (l0 : List ByteArray) (a1 : ByteArray) : Option ByteArray := if l0.length ≤ 140737488355328 then (if (Lib.join (l0.map (·.data.toList)) a1.data.toList).length ≤ 140737488355328 then some ⟨(Lib.join (l0.map (·.data.toList)) a1.data.toList).toArray⟩ else none) else none
theorem strings_Join.calls (A0 : Option Addr) (c0 : Nat) (l0 : List ByteArray) (a1 : ByteArray) (r : ByteArray) (w : World) (hr0 : Kd.C Kd.string w A0 l0.length l0) (hc0 : l0.length ≤ c0) (h : strings_Join.f l0 a1 = some r) :
    Calls Tryd.prog 17 #[.slice A0 l0.length c0, .string a1] w fun e w' => e = .returned (.string r) ∧ Below w.heap.size w w' := by
  unfold strings_Join.f at h
  by_cases h1 : l0.length ≤ 140737488355328
  · rw [if_pos h1] at h
    by_cases h2 : (Lib.join (l0.map (·.data.toList)) a1.data.toList).length ≤ 140737488355328
    · rw [if_pos h2] at h
      obtain rfl := Option.some.inj h
      rcases Nat.eq_zero_or_pos l0.length with h0 | h0
      · obtain rfl := List.length_eq_zero_iff.1 h0
        exact (Tryd.strings_Join_none A0 c0 a1 w).mono fun e w' ⟨he, hw⟩ => ⟨he, by subst hw; exact Below.refl _ _⟩
      · obtain ⟨ad, rfl, hc⟩ := hr0.2.2 h0
        have cell : ∀ j x, l0[j]? = some x → w.cell? (ad.add j) = some (.string x) := by
          intro j x hj
          obtain ⟨c, _, hK, hcell⟩ := hc j x hj
          have hK' : c = [.string x] := hK
          subst hK'
          have := hcell 0 _ rfl
          have hz : Kd.string.sz = 1 := rfl
          rw [hz, Nat.mul_one, Nat.add_zero] at this
          exact this
        obtain ⟨b, off, spot⟩ := ad
        have hf := cell 0 _ (List.getElem?_eq_getElem h0)
        obtain rfl : spot = none := by simpa [Addr.add] using World.cell?_spot hf
        have cell' : ∀ j x, l0[j]? = some x → w.cell? ⟨b, off + j, none⟩ = some (.string x) := fun j x hj => by rw [← Go.WideShapes.add_plain]; exact cell j x hj
        exact Tryd.strings_Join b off c0 l0 a1 w cell' (block_lt_of_cell (cell' 0 _ (List.getElem?_eq_getElem h0))) h1 hc0 h2
    · rw [if_neg h2] at h; cases h
  · rw [if_neg h1] at h; cases h
def strconv_FormatInt.f (a0 a1 : Int) : Option ByteArray := if a1 = 10 then (if -9223372036854775808 ≤ a0 then (if a0 ≤ 9223372036854775807 then some ⟨(Lib.itoa a0).toArray⟩ else none) else none) else none
theorem strconv_FormatInt.calls (a0 a1 : Int) (r : ByteArray) (w : World) (h : strconv_FormatInt.f a0 a1 = some r) (hT : Tabs w) :
    Calls Tryd.prog 43 #[.int .i64 a0, .int .i64 a1] w fun e w' => e = .returned (.string r) ∧ Below w.heap.size w w' := by
  unfold strconv_FormatInt.f at h
  by_cases h1 : a1 = 10
  · rw [if_pos h1] at h
    subst h1
    by_cases h2 : -9223372036854775808 ≤ a0
    · rw [if_pos h2] at h
      by_cases h3 : a0 ≤ 9223372036854775807
      · rw [if_pos h3] at h
        obtain rfl := Option.some.inj h
        exact (Tryd.strconv_FormatInt_10 a0 h2 h3 w hT.pow).mono fun e w' ⟨he, k, os, hw⟩ => ⟨he, by subst hw; exact Lib.below_grow _ _ (Nat.le_refl _) _ _⟩
      · rw [if_neg h3] at h; cases h
    · rw [if_neg h2] at h; cases h
  · rw [if_neg h1] at h; cases h
def strconv_FormatBool_56.f (a0 : Bool) : Option (ByteArray) := if a0 = true then (some (⟨#[116, 114, 117, 101]⟩ : ByteArray)) else (some (⟨#[102, 97, 108, 115, 101]⟩ : ByteArray))
set_option maxHeartbeats 4000000 in
set_option maxRecDepth 100000 in
theorem strconv_FormatBool_56.calls (a0 : Bool) (r : ByteArray) (w : World) (h : strconv_FormatBool_56.f a0 = some r) :
    Calls Tryd.prog 56 #[.bool a0] w fun e w' => e = .returned (.string r) ∧ Drawn0 w w' := by
  have H : (if a0 = true then (some (⟨#[116, 114, 117, 101]⟩ : ByteArray)) else (some (⟨#[102, 97, 108, 115, 101]⟩ : ByteArray))) = some r := h
  clear h
  by_cases c2 : a0 = true
  · subst c2
    have H1 : (some (⟨#[116, 114, 117, 101]⟩ : ByteArray)) = some r := by rw [if_pos rfl] at H; exact H
    clear H
    have H := H1
    clear H1
    obtain rfl := Option.some.inj H
    go_enter Tryd.func56, Tryd.ntmps56
    go_wp2
    go_ret
    exact ⟨by first | rfl | (simp; done) | (simp [*]; done), by repeat (first | exact Drawn0.refl _ | apply Drawn0.step)⟩
  · replace c2 := Bool.eq_false_iff.mpr c2
    subst c2
    have H1 : (some (⟨#[102, 97, 108, 115, 101]⟩ : ByteArray)) = some r := by rw [if_neg (show ¬ (false = true) by decide)] at H; exact H
    clear H
    have H := H1
    clear H1
    obtain rfl := Option.some.inj H
    go_enter Tryd.func56, Tryd.ntmps56
    go_wp2
    go_ret
    exact ⟨by first | rfl | (simp; done) | (simp [*]; done), by repeat (first | exact Drawn0.refl _ | apply Drawn0.step)⟩
end Go.Proofs.YtdjcechogbcdnaaDoor.XL
namespace Go.Proofs.YtdjcechogbcdnaaDoor.XL
open Go.RowKit Go.Proofs.YtdjcechogbcdnaaDoorW.PrintWords Go.Proofs.YtdjcechogbcdnaaDoorW.PrintLast Go.Proofs.YtdjcechogbcdnaaDoorW.PrintMore
attribute [local go_sem] max2_int min2_int max_two min_two max_three min_three max_four min_four   -- for this text's walks alone
set_option linter.unusedVariables false
set_option linter.unusedSimpArgs false
def strconv_FormatBool_44.f (a0 : Bool) : Option (ByteArray) := (strconv_FormatBool_56.f a0).bind fun t107 => (some t107)
set_option maxHeartbeats 4000000 in
set_option maxRecDepth 100000 in
theorem strconv_FormatBool_44.calls (a0 : Bool) (r : ByteArray) (w : World) (h : strconv_FormatBool_44.f a0 = some r) :
    Calls Tryd.prog 44 #[.bool a0] w fun e w' => e = .returned (.string r) ∧ Drawn0 w w' := by
  have H : ((strconv_FormatBool_56.f a0).bind fun t107 => (some t107)) = some r := h
  clear h
  replace H := Option.bind_eq_some_iff.mp H
  obtain ⟨t107, A20, H⟩ := H
  replace H : (some t107) = some r := H
  have A2 := Aside0.mk A20
  clear A20
  obtain rfl := Option.some.inj H
  go_enter Tryd.func44, Tryd.ntmps44
  go_wp2_with (first | ((with_reducible refine gate_callee (f := 56) rfl ?_); refine goesL_ (some 4) rfl rfl Tryd.func56 (by kernel_rfl) rfl #[.bool a0] rfl (by (try simp only [List.map_toArray, List.map_cons, List.map_nil]); first | done | rfl | (simp only [List.length_drop, List.length_take]; rfl)) ?_; (with_reducible refine (strconv_FormatBool_56.calls a0 t107 _ A2.out).mono ?_); rintro e w' ⟨rfl, ⟨nd, rfl⟩⟩; refine ⟨_, rfl, ?_⟩))
  go_ret
  exact ⟨by first | rfl | (simp; done) | (simp [*]; done), by repeat (first | exact Drawn0.refl _ | apply Drawn0.step)⟩
def hexd (i : Int) : Int := if i < 10 then 48 + i else 87 + i
def qb (c : Int) : List Int := if c < 32 ∨ 126 < c then [92, 120, hexd (c / 16), hexd (c % 16)] else if c = 34 ∨ c = 92 then [92, c] else [c]
def quotedL (s : ByteArray) : List Int := 34 :: (bytesOf s).flatMap qb ++ [34]
def value_quoted.f (a0 : ByteArray) : Option ByteArray := if a0.size * 4 + 2 ≤ 140737488355328 then some (strOfNums (quotedL a0)) else none
theorem qt_C_new (W : World) (ys : List Int) (e : Nat) (hl : ys.length ≤ 9223372036854775807) : Kd.C (Kd.int .u8) (W.alloc (.cells (ys.map (Value.int .u8)).toArray e)) (some ⟨W.heap.size, 0, none⟩) ys.length ys := by
  refine Kd.C_of_reads (d := (0 : Int)) ⟨rfl, hl, fun _ => ⟨_, rfl, fun j hj => ?_⟩⟩
  have := blk_cell (heap_alloc_new W (.cells (ys.map (Value.int .u8)).toArray e)) j
  rw [Go.WideShapes.add_plain, Nat.zero_add, this]
  simp [hj]
theorem qt_bt_take (s : ByteArray) (k : Nat) (h : k < s.size) : (bytesOf s).take (k + 1) = (bytesOf s).take k ++ [bt s k] := by
  have hl : k < (bytesOf s).length := by simp [bytesOf]; exact h
  rw [List.take_succ_eq_append_getElem hl]
  congr 2
  simp [bytesOf, bt, h]
  rfl
theorem qt_bt_range (s : ByteArray) (k : Nat) : 0 ≤ bt s k ∧ bt s k ≤ 255 := by
  unfold bt; split
  · rename_i h; have := (s[(k : Int).toNat]'h).toNat_lt; omega
  · omega
theorem qb_len (c : Int) : (qb c).length ≤ 4 := by unfold qb; split <;> (try split) <;> simp
theorem qt_flat_len (l : List Int) : (l.flatMap qb).length ≤ 4 * l.length := by
  induction l with
  | nil => simp
  | cons c l ih => have := qb_len c; simp only [List.flatMap_cons, List.length_append, List.length_cons]; omega
theorem qt_bt_getD (s : ByteArray) (j : Nat) (h : j < s.size) : ((s.data.toList.getD j 0).toNat : Int) = bt s j := by
  simp [bt, h, List.getD]
  rfl
set_option maxRecDepth 100000 in
theorem and15_all : ∀ n : Fin 256, bits BinOp.and IntKind.u8 ((n.val : Nat) : Int) 15 = ((n.val : Nat) : Int) % 16 := by decide +kernel
theorem and15 (c : Int) (h0 : 0 ≤ c) (h1 : c ≤ 255) : bits BinOp.and IntKind.u8 c 15 = c % 16 := by
  obtain ⟨n, rfl⟩ := Int.eq_ofNat_of_zero_le h0
  have hn : n < 256 := by omega
  exact and15_all ⟨n, hn⟩
theorem hex_at (x : Int) (h0 : 0 ≤ x) (h1 : x < 16) : ∀ (h : x.toNat < ByteArray.size { data := #[48, 49, 50, 51, 52, 53, 54, 55, 56, 57, 97, 98, 99, 100, 101, 102] }), ((({ data := #[48, 49, 50, 51, 52, 53, 54, 55, 56, 57, 97, 98, 99, 100, 101, 102] } : ByteArray)[x.toNat]'h).toNat : Int) = hexd x := by
  intro h
  have : x = 0 ∨ x = 1 ∨ x = 2 ∨ x = 3 ∨ x = 4 ∨ x = 5 ∨ x = 6 ∨ x = 7 ∨ x = 8 ∨ x = 9 ∨ x = 10 ∨ x = 11 ∨ x = 12 ∨ x = 13 ∨ x = 14 ∨ x = 15 := by omega
  rcases this with h | h | h | h | h | h | h | h | h | h | h | h | h | h | h | h <;> subst h <;> rfl
theorem kept_conv {w W w1 : World} {v : Value} {o : Obj} {n : Nat} {f : Nat → Value} (h0 : ∀ k, v.ownBlock = some k → k ≠ w.heap.size + 1) (hc : ∀ j : Nat, j < n → W.cell? ⟨w.heap.size + 1, j, none⟩ = some (f j)) (hz : w.heap.size + 2 ≤ W.heap.size) (hg : (W.alloc o).drew.grownBy w1 v.ownBlock) :
    Aside0 (∀ j : Nat, j < n → w1.cell? ⟨w.heap.size + 1, j, none⟩ = some (f j)) := by
  refine ⟨fun j hj => ?_⟩
  have h1 : w1.heap[w.heap.size + 1]? = (W.alloc o).drew.heap[w.heap.size + 1]? := hg.block _ (by simp; omega) (fun e => h0 _ e.symm rfl)
  have h2 : (W.alloc o).drew.heap[w.heap.size + 1]? = W.heap[w.heap.size + 1]? := (below_drew (below_alloc (Below.refl _ _) o)).block _ (by omega)
  have h3 := hc j hj
  unfold World.cell? at h3 ⊢
  simp only [h1, h2]
  exact h3
theorem kept_conv' {w W w1 : World} {v : Value} {o : Obj} {n : Nat} {f : Nat → Value} (h0 : ∀ k, v.ownBlock = some k → k ≠ w.heap.size + 1) (hc : ∀ j : Nat, j < n → W.cell? ⟨w.heap.size + 1, j, none⟩ = some (f j)) (hz : w.heap.size + 2 ≤ W.heap.size) (hg : (W.alloc o).grownBy w1 v.ownBlock) :
    Aside0 (∀ j : Nat, j < n → w1.cell? ⟨w.heap.size + 1, j, none⟩ = some (f j)) := by
  refine ⟨fun j hj => ?_⟩
  have h1 : w1.heap[w.heap.size + 1]? = (W.alloc o).heap[w.heap.size + 1]? := hg.block _ (by simp; omega) (fun e => h0 _ e.symm rfl)
  have h2 : (W.alloc o).heap[w.heap.size + 1]? = W.heap[w.heap.size + 1]? := (below_alloc (Below.refl _ _) o).block _ (by omega)
  have h3 := hc j hj
  unfold World.cell? at h3 ⊢
  simp only [h1, h2]
  exact h3
theorem qt_size_conv {w W w1 : World} {v : Value} {o : Obj} (hz : w.heap.size + 2 ≤ W.heap.size) (hg : (W.alloc o).grownBy w1 v.ownBlock) : w.heap.size + 2 ≤ w1.heap.size :=
  Nat.le_trans hz (Nat.le_trans (below_alloc (Below.refl _ _) o).size hg.size)
theorem qt_below_bytes (w : World) (e : TypeId) (s : ByteArray) : Below w.heap.size w (Lib.bytesWorld w e s) := bytes_below (Below.refl _ _) (Nat.le_refl _) e s
set_option maxHeartbeats 1000000 in
set_option maxRecDepth 100000 in
theorem value_quoted.calls (a0 : ByteArray) (r : ByteArray) (w : World) (h : value_quoted.f a0 = some r) :
    Calls Tryd.prog 45 #[.string a0] w fun e w' => e = .returned (.string r) ∧ Below w.heap.size w w' := by
  unfold value_quoted.f at h
  by_cases hb : a0.size * 4 + 2 ≤ 140737488355328
  · rw [if_pos hb] at h
    obtain rfl := Option.some.inj h
    clear h
    have hcv := fun (W : World) => Lib.run_convert_string_bytes (P := Tryd.prog) W 9 62 5 a0 Tryd.underlying9 Tryd.underlying62 Tryd.underlying5
    go_enter Tryd.func45, Tryd.ntmps45
    go_wp2
    have hst : w.heap.size < (w.alloc (Obj.cells #[Value.int IntKind.u8 34] 5)).heap.size := by simp
    have hR0 : Kd.R (Kd.int .u8) 5 (Lib.bytesWorld (w.alloc (Obj.cells #[Value.int IntKind.u8 34] 5)) 5 a0) w.heap.size (fun b => b ≠ w.heap.size + 1) (.slice (some ⟨w.heap.size, 0, none⟩) 1 1) [34] := by
      refine Kd.R_of_own (enc := Value.int .u8) (h1 := fun _ => rfl) ⟨rfl, .inr ⟨w.heap.size, 1, #[.int .u8 34], rfl, Nat.le_refl _, ?_, by simp, by simp [maxLen], by simp, by simp [encs]⟩⟩ (fun k hk => by injection hk with hk; simp at hk; omega)
      rw [Lib.bytesWorld_at_old _ _ _ _ hst]
      exact heap_alloc_new w _
    have hB0 : Below w.heap.size w (Lib.bytesWorld (w.alloc (Obj.cells #[Value.int IntKind.u8 34] 5)) 5 a0) := by
      refine below_step (below_alloc (Below.refl _ _) (Obj.cells #[Value.int IntKind.u8 34] 5)) ?_
      exact qt_below_bytes _ _ _
    go_loopw [3, 10] (fun v3 v10 w' => ∃ k : Nat, k ≤ a0.size ∧ v10 = .int .i64 k ∧ Aside0 (Kd.R (Kd.int .u8) 5 w' w.heap.size (fun b => b ≠ w.heap.size + 1) v3 (34 :: ((bytesOf a0).take k).flatMap qb)) ∧ Aside0 (Below w.heap.size w w') ∧ Aside0 (∀ j : Nat, j < a0.size → w'.cell? ⟨w.heap.size + 1, j, none⟩ = some (.int .u8 (bt a0 j))) ∧ Aside0 (w.heap.size + 2 ≤ w'.heap.size)) (fun _ v10 _ => a0.size - (intOf v10).toNat)
    case atStart =>
      refine ⟨0, Nat.zero_le _, rfl, ⟨by simpa using hR0⟩, ⟨hB0⟩, ⟨fun j hj => ?_⟩, ⟨by rw [Lib.bytesWorld_size]; simp⟩⟩
      have h2 := Lib.bytesWorld_cell (w.alloc (Obj.cells #[Value.int IntKind.u8 34] 5)) 5 a0 j hj
      have h3 : (w.alloc (Obj.cells #[Value.int IntKind.u8 34] 5)).heap.size = w.heap.size + 1 := by simp
      rw [h3] at h2
      rw [h2, qt_bt_getD a0 j hj]
    case round =>
      obtain ⟨k, hk, rfl, HR, HB, HC, HZ⟩ := hrel
      by_cases hlt : k < a0.size
      · have hc := HC.out k hlt
        obtain ⟨c0, c255⟩ := qt_bt_range a0 k
        have HT : Aside0 (34 :: ((bytesOf a0).take (k + 1)).flatMap qb = (34 :: ((bytesOf a0).take k).flatMap qb) ++ qb (bt a0 k)) := ⟨by rw [qt_bt_take a0 k hlt]; simp [List.flatMap_append]⟩
        have hlen : (34 :: ((bytesOf a0).take k).flatMap qb).length + 4 ≤ 140737488355328 := by
          have h1 := qt_flat_len ((bytesOf a0).take k)
          rw [List.length_take] at h1
          simp only [List.length_cons]
          omega
        obtain ⟨c, hcc⟩ : ∃ c, c = bt a0 k := ⟨_, rfl⟩
        rw [← hcc] at hc c0 c255 HT
        clear hcc
        by_cases h1 : c < 32 ∨ 126 < c
        · have hq : qb c = [92, 120, hexd (c / 16), hexd (c % 16)] := by unfold qb; rw [if_pos h1]
          have h2 : (c < 32) ∨ (32 ≤ c ∧ 126 < c) := by omega
          clear h1
          rcases h2 with h2 | ⟨h2, h3⟩
          · have hx0 : 0 ≤ c / 16 := by omega
            have hx1 : c / 16 < 16 := by omega
            have hy0 : 0 ≤ c % 16 := by omega
            have hy1 : c % 16 < 16 := by omega
            have hand : bits BinOp.and IntKind.u8 c 15 = c % 16 := and15 c (by omega) (by omega)
            have hex1 := hex_at (c / 16) hx0 hx1
            have hex2 := hex_at (c % 16) hy0 hy1
            have HC_ : Aside0 (Kd.C (Kd.int .u8) (wr.alloc (.cells #[.int .u8 92, .int .u8 120, .int .u8 (hexd (c / 16)), .int .u8 (hexd (c % 16))] 5)).drew (some ⟨wr.heap.size, 0, none⟩) 4 [92, 120, hexd (c / 16), hexd (c % 16)]) := ⟨Kd.C_below (qt_C_new wr [92, 120, hexd (c / 16), hexd (c % 16)] 5 (by simp)) (below_drew (Below.refl _ _))⟩
            have HQ := Aside0.mk hq
            have HL := Aside0.mk hlen
            clear hq hlen
            go_wp2
            go_region_law (refine Kd.R_append_rows_step (Kd.int .u8) (Rr := fun x cs => cs = [Value.int .u8 x]) (w0 := w) w.heap.size rfl (.tmp 21) (.tmp 28) 62 5 (.int .u8 0) 1 rfl Tryd.underlying62 info5 rfl (by decide) (by decide) _ (34 :: ((bytesOf a0).take k).flatMap qb) [92, 120, hexd (c / 16), hexd (c % 16)] _ 4 4 (fun b => b ≠ w.heap.size + 1) (fun _ => False) rfl rfl ?aO ?aR (fun _ _ h => h) (fun _ h => h.elim) ?aF ?aB ?aS ?aL ?_; (case aO => exact Kd.R_below HR.out (below_drew (below_alloc (Below.refl _ _) _))); (case aR => exact HC_.out); (case aF => exact fun k hk => by have := HZ.out; simp at hk; omega); (case aB => exact below_drew (below_alloc HB.out _)); (case aS => have := HZ.out; simp; omega); (case aL => rw [Nat.mul_one]; exact HL.out); intro v1 w1 hR1 hB1 hg1 hat1; have HR1 := Aside0.mk hR1; have HB1 := Aside0.mk hB1; have HG1 := Aside0.mk hg1; clear hR1 hB1 hg1 hat1)
            all_goals
              go_wp2
              go_roundw
              case rel => exact ⟨k + 1, by omega, by go_num, ⟨by rw [HT.out, HQ.out]; exact HR1.out⟩, HB1, kept_conv HR.out.1 HC.out HZ.out HG1.out, ⟨Nat.le_trans HZ.out (Nat.le_trans (below_drew (below_alloc (Below.refl _ _) _)).size HG1.out.size)⟩⟩
              case measure => simp [intOf]; omega
          · have hx0 : 0 ≤ c / 16 := by omega
            have hx1 : c / 16 < 16 := by omega
            have hy0 : 0 ≤ c % 16 := by omega
            have hy1 : c % 16 < 16 := by omega
            have hand : bits BinOp.and IntKind.u8 c 15 = c % 16 := and15 c (by omega) (by omega)
            have hex1 := hex_at (c / 16) hx0 hx1
            have hex2 := hex_at (c % 16) hy0 hy1
            have HC_ : Aside0 (Kd.C (Kd.int .u8) (wr.alloc (.cells #[.int .u8 92, .int .u8 120, .int .u8 (hexd (c / 16)), .int .u8 (hexd (c % 16))] 5)).drew (some ⟨wr.heap.size, 0, none⟩) 4 [92, 120, hexd (c / 16), hexd (c % 16)]) := ⟨Kd.C_below (qt_C_new wr [92, 120, hexd (c / 16), hexd (c % 16)] 5 (by simp)) (below_drew (Below.refl _ _))⟩
            have HQ := Aside0.mk hq
            have HL := Aside0.mk hlen
            clear hq hlen
            go_wp2
            go_region_law (refine Kd.R_append_rows_step (Kd.int .u8) (Rr := fun x cs => cs = [Value.int .u8 x]) (w0 := w) w.heap.size rfl (.tmp 21) (.tmp 28) 62 5 (.int .u8 0) 1 rfl Tryd.underlying62 info5 rfl (by decide) (by decide) _ (34 :: ((bytesOf a0).take k).flatMap qb) [92, 120, hexd (c / 16), hexd (c % 16)] _ 4 4 (fun b => b ≠ w.heap.size + 1) (fun _ => False) rfl rfl ?aO ?aR (fun _ _ h => h) (fun _ h => h.elim) ?aF ?aB ?aS ?aL ?_; (case aO => exact Kd.R_below HR.out (below_drew (below_alloc (Below.refl _ _) _))); (case aR => exact HC_.out); (case aF => exact fun k hk => by have := HZ.out; simp at hk; omega); (case aB => exact below_drew (below_alloc HB.out _)); (case aS => have := HZ.out; simp; omega); (case aL => rw [Nat.mul_one]; exact HL.out); intro v1 w1 hR1 hB1 hg1 hat1; have HR1 := Aside0.mk hR1; have HB1 := Aside0.mk hB1; have HG1 := Aside0.mk hg1; clear hR1 hB1 hg1 hat1)
            all_goals
              go_wp2
              go_roundw
              case rel => exact ⟨k + 1, by omega, by go_num, ⟨by rw [HT.out, HQ.out]; exact HR1.out⟩, HB1, kept_conv HR.out.1 HC.out HZ.out HG1.out, ⟨Nat.le_trans HZ.out (Nat.le_trans (below_drew (below_alloc (Below.refl _ _) _)).size HG1.out.size)⟩⟩
              case measure => simp [intOf]; omega
        · have h2 : 32 ≤ c := by omega
          have h3 : c ≤ 126 := by omega
          by_cases h4 : c = 34 ∨ c = 92
          · have hq : qb c = [92, c] := by unfold qb; rw [if_neg h1, if_pos h4]
            have HQ := Aside0.mk hq
            have HL := Aside0.mk hlen
            clear hq hlen
            rcases h4 with h4 | h4
            · subst h4
              clear h1 h2 h3
              go_wp2_with (at_builtin; refine Kd.R_append_row (Value.int .u8) 0 (h1 := fun _ => rfl) (w0 := w) w.heap.size rfl (.tmp 37) (.tmp 38) 62 5 (.int .u8 0) 1 rfl Tryd.underlying62 info5 rfl (by decide) u3 (34 :: ((bytesOf a0).take k).flatMap qb) [92] (some ⟨wr.heap.size, 0, none⟩) 1 1 (fun b => b ≠ w.heap.size + 1) rfl rfl ?aF ?aO ?aR ?aB ?aS ?aL ?_)
              case aF => exact fun k hk => by have := HZ.out; simp at hk; omega
              case aO => exact Kd.R_below HR.out (below_alloc (Below.refl _ _) _)
              case aR => exact qt_C_new wr [92] 5 (by simp)
              case aB => exact below_alloc HB.out _
              case aS => have := HZ.out; simp; omega
              case aL => have := HL.out; rw [Nat.mul_one]; omega
              intro v1 w1 hR1 hB1 hg1 hat1
              have HZ1 := Aside0.mk (qt_size_conv HZ.out hg1)
              have HC1 := kept_conv' HR.out.1 HC.out HZ.out hg1
              have HR1 := Aside0.mk hR1
              have HB1 := Aside0.mk hB1
              clear hR1 hB1 hg1 hat1
              go_wp2_with (at_builtin; refine Kd.R_append_row (Value.int .u8) 0 (h1 := fun _ => rfl) (w0 := w) w.heap.size rfl (.tmp 40) (.tmp 42) 62 5 (.int .u8 0) 1 rfl Tryd.underlying62 info5 rfl (by decide) v1 ((34 :: ((bytesOf a0).take k).flatMap qb) ++ [92]) [34] (some ⟨w1.heap.size, 0, none⟩) 1 1 (fun b => b ≠ w.heap.size + 1) rfl rfl ?aF ?aO ?aR ?aB ?aS ?aL ?_)
              case aF => exact fun k hk => by have := HZ1.out; simp at hk; omega
              case aO => exact Kd.R_below HR1.out (below_alloc (Below.refl _ _) _)
              case aR => exact qt_C_new w1 [34] 5 (by simp)
              case aB => exact below_alloc HB1.out _
              case aS => have := HZ1.out; simp; omega
              case aL => have := HL.out; rw [Nat.mul_one, List.length_append]; simp only [List.length_singleton]; omega
              intro v2 w2 hR2 hB2 hg2 hat2
              have HZ2 := Aside0.mk (qt_size_conv HZ1.out hg2)
              have HC2 := kept_conv' HR1.out.1 HC1.out HZ1.out hg2
              have HR2 := Aside0.mk hR2
              have HB2 := Aside0.mk hB2
              clear hR2 hB2 hg2 hat2
              go_wp2
              go_roundw
              case rel => exact ⟨k + 1, by omega, by go_num, ⟨by rw [HT.out, HQ.out]; exact HR2.out⟩, HB2, HC2, HZ2⟩
              case measure => simp [intOf]; omega
            · subst h4
              clear h1 h2 h3
              go_wp2_with (at_builtin; refine Kd.R_append_row (Value.int .u8) 0 (h1 := fun _ => rfl) (w0 := w) w.heap.size rfl (.tmp 37) (.tmp 38) 62 5 (.int .u8 0) 1 rfl Tryd.underlying62 info5 rfl (by decide) u3 (34 :: ((bytesOf a0).take k).flatMap qb) [92] (some ⟨wr.heap.size, 0, none⟩) 1 1 (fun b => b ≠ w.heap.size + 1) rfl rfl ?aF ?aO ?aR ?aB ?aS ?aL ?_)
              case aF => exact fun k hk => by have := HZ.out; simp at hk; omega
              case aO => exact Kd.R_below HR.out (below_alloc (Below.refl _ _) _)
              case aR => exact qt_C_new wr [92] 5 (by simp)
              case aB => exact below_alloc HB.out _
              case aS => have := HZ.out; simp; omega
              case aL => have := HL.out; rw [Nat.mul_one]; omega
              intro v1 w1 hR1 hB1 hg1 hat1
              have HZ1 := Aside0.mk (qt_size_conv HZ.out hg1)
              have HC1 := kept_conv' HR.out.1 HC.out HZ.out hg1
              have HR1 := Aside0.mk hR1
              have HB1 := Aside0.mk hB1
              clear hR1 hB1 hg1 hat1
              go_wp2_with (at_builtin; refine Kd.R_append_row (Value.int .u8) 0 (h1 := fun _ => rfl) (w0 := w) w.heap.size rfl (.tmp 40) (.tmp 42) 62 5 (.int .u8 0) 1 rfl Tryd.underlying62 info5 rfl (by decide) v1 ((34 :: ((bytesOf a0).take k).flatMap qb) ++ [92]) [92] (some ⟨w1.heap.size, 0, none⟩) 1 1 (fun b => b ≠ w.heap.size + 1) rfl rfl ?aF ?aO ?aR ?aB ?aS ?aL ?_)
              case aF => exact fun k hk => by have := HZ1.out; simp at hk; omega
              case aO => exact Kd.R_below HR1.out (below_alloc (Below.refl _ _) _)
              case aR => exact qt_C_new w1 [92] 5 (by simp)
              case aB => exact below_alloc HB1.out _
              case aS => have := HZ1.out; simp; omega
              case aL => have := HL.out; rw [Nat.mul_one, List.length_append]; simp only [List.length_singleton]; omega
              intro v2 w2 hR2 hB2 hg2 hat2
              have HZ2 := Aside0.mk (qt_size_conv HZ1.out hg2)
              have HC2 := kept_conv' HR1.out.1 HC1.out HZ1.out hg2
              have HR2 := Aside0.mk hR2
              have HB2 := Aside0.mk hB2
              clear hR2 hB2 hg2 hat2
              go_wp2
              go_roundw
              case rel => exact ⟨k + 1, by omega, by go_num, ⟨by rw [HT.out, HQ.out]; exact HR2.out⟩, HB2, HC2, HZ2⟩
              case measure => simp [intOf]; omega
          · have hq : qb c = [c] := by unfold qb; rw [if_neg h1, if_neg h4]
            have HQ := Aside0.mk hq
            have HL := Aside0.mk hlen
            have h5 : (c == 34) = false := by simp; omega
            have h6 : (c == 92) = false := by simp; omega
            clear hq hlen h1 h4
            go_wp2_with (at_builtin; refine Kd.R_append_row (Value.int .u8) 0 (h1 := fun _ => rfl) (w0 := w) w.heap.size rfl (.tmp 40) (.tmp 42) 62 5 (.int .u8 0) 1 rfl Tryd.underlying62 info5 rfl (by decide) u3 (34 :: ((bytesOf a0).take k).flatMap qb) [c] (some ⟨wr.heap.size, 0, none⟩) 1 1 (fun b => b ≠ w.heap.size + 1) rfl rfl ?aF ?aO ?aR ?aB ?aS ?aL ?_)
            case aF => exact fun k hk => by have := HZ.out; simp at hk; omega
            case aO => exact Kd.R_below HR.out (below_alloc (Below.refl _ _) _)
            case aR => exact qt_C_new wr [c] 5 (by simp)
            case aB => exact below_alloc HB.out _
            case aS => have := HZ.out; simp; omega
            case aL => have := HL.out; rw [Nat.mul_one]; omega
            intro v1 w1 hR1 hB1 hg1 hat1
            have HZ1 := Aside0.mk (qt_size_conv HZ.out hg1)
            have HC1 := kept_conv' HR.out.1 HC.out HZ.out hg1
            have HR1 := Aside0.mk hR1
            have HB1 := Aside0.mk hB1
            clear hR1 hB1 hg1 hat1
            go_wp2
            go_roundw
            case rel => exact ⟨k + 1, by omega, by go_num, ⟨by rw [HT.out, HQ.out]; exact HR1.out⟩, HB1, HC1, HZ1⟩
            case measure => simp [intOf]; omega
      · obtain rfl : k = a0.size := by omega
        have hfull : (bytesOf a0).take a0.size = bytesOf a0 := List.take_of_length_le (by simp [bytesOf])
        have hfl := qt_flat_len (bytesOf a0)
        rw [hfull] at HR
        have hlen : (34 :: (bytesOf a0).flatMap qb).length + 1 ≤ 140737488355328 := by
          have : (bytesOf a0).length = a0.size := by simp [bytesOf]
          simp only [List.length_cons]; omega
        have HL := Aside0.mk hlen
        clear hfull hfl hlen hlt
        go_wp2_with (at_builtin; refine Kd.R_append_row (Value.int .u8) 0 (h1 := fun _ => rfl) (w0 := w) w.heap.size rfl (.tmp 45) (.tmp 46) 62 5 (.int .u8 0) 1 rfl Tryd.underlying62 info5 rfl (by decide) u3 (34 :: (bytesOf a0).flatMap qb) [34] (some ⟨wr.heap.size, 0, none⟩) 1 1 (fun b => b ≠ w.heap.size + 1) rfl rfl ?aF ?aO ?aR ?aB ?aS ?aL ?_)
        case aF => exact fun k hk => by have := HZ.out; simp at hk; omega
        case aO => exact Kd.R_below HR.out (below_alloc (Below.refl _ _) _)
        case aR => exact qt_C_new wr [34] 5 (by simp)
        case aB => exact below_alloc HB.out _
        case aS => have := HZ.out; simp; omega
        case aL => have := HL.out; rw [Nat.mul_one]; omega
        intro v1 w1 hR1 hB1 hg1 hat1
        have hcs := own_string (P := Tryd.prog) Tryd.underlying62 Tryd.underlying5 Tryd.underlying9 (Kd.own_of_R hR1)
        have HB1 := Aside0.mk hB1
        clear hR1 hB1 hg1 hat1
        go_wp2
        go_ret
        exact ⟨rfl, HB1.out⟩
  · rw [if_neg hb] at h; cases h
end Go.Proofs.YtdjcechogbcdnaaDoor.XL
namespace Go.Proofs.YtdjcechogbcdnaaDoor.XL
open Go.RowKit Go.Proofs.YtdjcechogbcdnaaDoorW.PrintWords Go.Proofs.YtdjcechogbcdnaaDoorW.PrintLast Go.Proofs.YtdjcechogbcdnaaDoorW.PrintMore
attribute [local go_sem] max2_int min2_int max_two min_two max_three min_three max_four min_four   -- for this text's walks alone
set_option linter.unusedVariables false
set_option linter.unusedSimpArgs false
def value_Print.l0 : Nat → List ByteArray → List Int → Int → Int → Option (ByteArray)
  | 0, _, _, _, _ => none
  | k + 1, x3, x32, x33, x34 => if x34 < x33 then (if 0 ≤ x34 then (if x34 < (x32.length : Int) then ((strconv_FormatInt.f (rd x32 x34) 10).bind fun t113 => (if x3.length < 8796093022208 then (value_Print.l0 k (x3 ++ [t113]) x32 x33 (wrap64 (x34 + 1))) else (none))) else (none)) else (none)) else ((strings_Join.f x3 (⟨#[44, 32]⟩ : ByteArray)).bind fun t117 => (if 1 + t117.size ≤ 9223372036854775807 then (if ((⟨#[91]⟩ : ByteArray) ++ t117).size + 1 ≤ 9223372036854775807 then (some (((⟨#[91]⟩ : ByteArray) ++ t117) ++ (⟨#[93]⟩ : ByteArray))) else (none)) else (none)))
def value_Print.f (k : Nat) (a0_0 : Int) (a0_1 : Int) (a0_2 : ByteArray) (l0_3 : List Int) : Option (ByteArray) := if a0_0 = 1 then ((strconv_FormatInt.f a0_1 10).bind fun t109 => (some t109)) else (if a0_0 = 2 then ((strconv_FormatBool_44.f (a0_1 == 1)).bind fun t110 => (some t110)) else (if a0_0 = 3 then ((value_quoted.f a0_2).bind fun t111 => (some t111)) else (if a0_0 = 4 then (if 1 + a0_2.size ≤ 9223372036854775807 then (some ((⟨#[39]⟩ : ByteArray) ++ a0_2)) else (none)) else (if a0_0 = 5 then (value_Print.l0 k ([] : List ByteArray) l0_3 (l0_3.length : Int) 0) else (some (⟨#[110, 111, 110, 101]⟩ : ByteArray))))))
set_option maxHeartbeats 4000000 in
set_option maxRecDepth 100000 in
theorem value_Print.calls (k : Nat) (a0_0 : Int) (a0_1 : Int) (a0_2 : ByteArray) (A0_3 : Option Addr) (c0_3 : Nat) (l0_3 : List Int) (r : ByteArray) (w : World) (hr0_3 : Kd.C (Kd.int .i64) w A0_3 l0_3.length l0_3) (hc0_3 : l0_3.length ≤ c0_3) (h : value_Print.f k a0_0 a0_1 a0_2 l0_3 = some r) (hT : Tabs w) :
    Calls Tryd.prog 32 #[.agg #[.int .i64 a0_0, .int .i64 a0_1, .string a0_2, .slice A0_3 l0_3.length c0_3]] w fun e w' => e = .returned (.string r) ∧ Below w.heap.size w w' := by
  have HT := Aside0.mk hT
  clear hT
  have hu60 := Tryd.underlying60
  have HR0_3 := Aside0.mk hr0_3
  have HC0_3 := Aside0.mk hc0_3
  clear hr0_3 hc0_3
  have HB := Aside0.mk (Below.refl w.heap.size w)
  have H : (if a0_0 = 1 then ((strconv_FormatInt.f a0_1 10).bind fun t109 => (some t109)) else (if a0_0 = 2 then ((strconv_FormatBool_44.f (a0_1 == 1)).bind fun t110 => (some t110)) else (if a0_0 = 3 then ((value_quoted.f a0_2).bind fun t111 => (some t111)) else (if a0_0 = 4 then (if 1 + a0_2.size ≤ 9223372036854775807 then (some ((⟨#[39]⟩ : ByteArray) ++ a0_2)) else (none)) else (if a0_0 = 5 then (value_Print.l0 k ([] : List ByteArray) l0_3 (l0_3.length : Int) 0) else (some (⟨#[110, 111, 110, 101]⟩ : ByteArray))))))) = some r := h
  clear h
  by_cases c2 : a0_0 = 1
  · rw [if_pos c2] at H
    have c2b0 : (a0_0 == 1) = true := beq_iff_eq.mpr c2
    have c2b1 : (a0_0 != 1) = false := bne_eq_false_iff_eq.mpr c2
    clear c2
    replace H := Option.bind_eq_some_iff.mp H
    obtain ⟨t109, A30, H⟩ := H
    replace H : (some t109) = some r := H
    have A3 := Aside0.mk A30
    clear A30
    obtain rfl := Option.some.inj H
    go_enter Tryd.func32, Tryd.ntmps32
    go_wp2_with (first | ((with_reducible refine gate_dst (N := 1) rfl ?_); refine box_event ?hg (N := 1) ?hd (cs := #[.int .i64 a0_0, .int .i64 a0_1, .string a0_2, .slice A0_3 l0_3.length c0_3]) (t := 60) ?hr ?_; (case hd => rfl); (case hg => rfl); (case hr => first | (go_simp; done) | (go_simp; rfl)); intro gb108 hg w4 hbox hb; have n0_ := Aside0.mk (below_step (by repeat (first | (with_reducible first | exact HB.out | apply below_alloc | apply pw_below_drewN | apply below_drew1) | exact HB.out)) hb); have n1_ := Aside0.mk (hbox); have n2_ := Aside0.mk ((by rw [hg]; exact (below_size (by repeat (first | (with_reducible first | exact HB.out | apply below_alloc | apply pw_below_drewN | apply below_drew1) | exact HB.out))) : w.heap.size ≤ gb108)); have n3_ := Aside0.mk ((by rw [hg]; exact (below_size (by repeat (first | (with_reducible first | exact HB.out | apply below_alloc | apply pw_below_drewN | apply below_drew1) | exact HB.out))) : w.heap.size ≤ gb108)); clear HB; have HB := n0_; have BK108 := n1_; have GW108 := n2_; have GE108 := n3_; clear n0_ n1_ n2_ n3_; clear hb hbox hg; have hcz5_0 : w4.cell? ⟨gb108, 0, none⟩ = some (.int .i64 a0_0) := (blk_cell BK108.out 0).trans rfl; have hcz5_1 : w4.cell? ⟨gb108, 1, none⟩ = some (.int .i64 a0_1) := (blk_cell BK108.out 1).trans rfl; have hcz5_2 : w4.cell? ⟨gb108, 2, none⟩ = some (.string a0_2) := (blk_cell BK108.out 2).trans rfl; have hcz5_3 : w4.cell? ⟨gb108, 3, none⟩ = some (.slice A0_3 l0_3.length c0_3) := (blk_cell BK108.out 3).trans rfl; have hfz5_0 := blk_frozen BK108.out 0; have hfz5_1 := blk_frozen BK108.out 1; have hfz5_2 := blk_frozen BK108.out 2; have hfz5_3 := blk_frozen BK108.out 3) | ((with_reducible refine gate_callee (f := 43) rfl ?_); refine goesL_ (some 12) rfl rfl Tryd.func43 (by kernel_rfl) rfl #[.int .i64 a0_1, .int .i64 10] rfl (by (try simp only [List.map_toArray, List.map_cons, List.map_nil]); first | done | rfl | (simp only [List.length_drop, List.length_take]; rfl)) ?_; (with_reducible refine (strconv_FormatInt.calls a0_1 10 t109 _ A3.out (Tabs.below HT.out (by repeat (first | (with_reducible first | exact HB.out | apply below_alloc | apply pw_below_drewN | apply below_drew1 | refine below_set ?_ GE108.out) | exact HB.out)))).mono ?_); rintro e w6 ⟨rfl, hb⟩; refine ⟨_, rfl, ?_⟩; have n0_ := Aside0.mk (blk_below (g := gb108) (o := .cells #[.int .i64 a0_0, .int .i64 a0_1, .string a0_2, .slice A0_3 l0_3.length c0_3] 60 (0, 0)) (by (with_reducible repeat (first | refine blk_drewN ?_ _ | refine blk_drew ?_ | refine blk_alloc ?_ _)); exact BK108.out) hb); have n1_ := Aside0.mk (below_step (by repeat (first | (with_reducible first | exact HB.out | apply below_alloc | apply pw_below_drewN | apply below_drew1 | refine below_set ?_ GE108.out) | exact HB.out)) hb); clear BK108; clear HB; have BK108 := n0_; have HB := n1_; clear n0_ n1_; (try clear hb); (try clear hb2); (try clear hk); (try clear hi)))
    go_ret
    exact ⟨by first | rfl | (simp [errW_none, errW_some] <;> rfl) | (simp [*, errW_none, errW_some] <;> rfl), by repeat (first | (with_reducible first | exact HB.out | apply below_alloc | apply pw_below_drewN | apply below_drew1 | refine below_set ?_ GE108.out) | exact HB.out)⟩
  · rw [if_neg c2] at H
    have c2b0 : (a0_0 == 1) = false := beq_eq_false_iff_ne.mpr c2
    have c2b1 : (a0_0 != 1) = true := bne_iff_ne.mpr c2
    by_cases c7 : a0_0 = 2
    · rw [if_pos c7] at H
      have c7b0 : (a0_0 == 2) = true := beq_iff_eq.mpr c7
      have c7b1 : (a0_0 != 2) = false := bne_eq_false_iff_eq.mpr c7
      clear c7
      replace H := Option.bind_eq_some_iff.mp H
      obtain ⟨t110, A80, H⟩ := H
      replace H : (some t110) = some r := H
      have A8 := Aside0.mk A80
      clear A80
      obtain rfl := Option.some.inj H
      go_enter Tryd.func32, Tryd.ntmps32
      go_wp2_with (first | ((with_reducible refine gate_dst (N := 1) rfl ?_); refine box_event ?hg (N := 1) ?hd (cs := #[.int .i64 a0_0, .int .i64 a0_1, .string a0_2, .slice A0_3 l0_3.length c0_3]) (t := 60) ?hr ?_; (case hd => rfl); (case hg => rfl); (case hr => first | (go_simp; done) | (go_simp; rfl)); intro gb108 hg w9 hbox hb; have n0_ := Aside0.mk (below_step (by repeat (first | (with_reducible first | exact HB.out | apply below_alloc | apply pw_below_drewN | apply below_drew1) | exact HB.out)) hb); have n1_ := Aside0.mk (hbox); have n2_ := Aside0.mk ((by rw [hg]; exact (below_size (by repeat (first | (with_reducible first | exact HB.out | apply below_alloc | apply pw_below_drewN | apply below_drew1) | exact HB.out))) : w.heap.size ≤ gb108)); have n3_ := Aside0.mk ((by rw [hg]; exact (below_size (by repeat (first | (with_reducible first | exact HB.out | apply below_alloc | apply pw_below_drewN | apply below_drew1) | exact HB.out))) : w.heap.size ≤ gb108)); clear HB; have HB := n0_; have BK108 := n1_; have GW108 := n2_; have GE108 := n3_; clear n0_ n1_ n2_ n3_; clear hb hbox hg; have hcz10_0 : w9.cell? ⟨gb108, 0, none⟩ = some (.int .i64 a0_0) := (blk_cell BK108.out 0).trans rfl; have hcz10_1 : w9.cell? ⟨gb108, 1, none⟩ = some (.int .i64 a0_1) := (blk_cell BK108.out 1).trans rfl; have hcz10_2 : w9.cell? ⟨gb108, 2, none⟩ = some (.string a0_2) := (blk_cell BK108.out 2).trans rfl; have hcz10_3 : w9.cell? ⟨gb108, 3, none⟩ = some (.slice A0_3 l0_3.length c0_3) := (blk_cell BK108.out 3).trans rfl; have hfz10_0 := blk_frozen BK108.out 0; have hfz10_1 := blk_frozen BK108.out 1; have hfz10_2 := blk_frozen BK108.out 2; have hfz10_3 := blk_frozen BK108.out 3) | ((with_reducible refine gate_callee (f := 44) rfl ?_); refine goesL_ (some 18) rfl rfl Tryd.func44 (by kernel_rfl) rfl #[.bool (a0_1 == 1)] rfl (by (try simp only [List.map_toArray, List.map_cons, List.map_nil]); first | done | rfl | (simp only [List.length_drop, List.length_take]; rfl)) ?_; (with_reducible refine (strconv_FormatBool_44.calls (a0_1 == 1) t110 _ A8.out).mono ?_); rintro e w' ⟨rfl, ⟨nd, rfl⟩⟩; refine ⟨_, rfl, ?_⟩))
      go_ret
      exact ⟨by first | rfl | (simp [errW_none, errW_some] <;> rfl) | (simp [*, errW_none, errW_some] <;> rfl), by repeat (first | (with_reducible first | exact HB.out | apply below_alloc | apply pw_below_drewN | apply below_drew1 | refine below_set ?_ GE108.out) | exact HB.out)⟩
    · rw [if_neg c7] at H
      have c7b0 : (a0_0 == 2) = false := beq_eq_false_iff_ne.mpr c7
      have c7b1 : (a0_0 != 2) = true := bne_iff_ne.mpr c7
      by_cases c11 : a0_0 = 3
      · rw [if_pos c11] at H
        have c11b0 : (a0_0 == 3) = true := beq_iff_eq.mpr c11
        have c11b1 : (a0_0 != 3) = false := bne_eq_false_iff_eq.mpr c11
        clear c11
        replace H := Option.bind_eq_some_iff.mp H
        obtain ⟨t111, A120, H⟩ := H
        replace H : (some t111) = some r := H
        have A12 := Aside0.mk A120
        clear A120
        obtain rfl := Option.some.inj H
        go_enter Tryd.func32, Tryd.ntmps32
        go_wp2_with (first | ((with_reducible refine gate_dst (N := 1) rfl ?_); refine box_event ?hg (N := 1) ?hd (cs := #[.int .i64 a0_0, .int .i64 a0_1, .string a0_2, .slice A0_3 l0_3.length c0_3]) (t := 60) ?hr ?_; (case hd => rfl); (case hg => rfl); (case hr => first | (go_simp; done) | (go_simp; rfl)); intro gb108 hg w13 hbox hb; have n0_ := Aside0.mk (below_step (by repeat (first | (with_reducible first | exact HB.out | apply below_alloc | apply pw_below_drewN | apply below_drew1) | exact HB.out)) hb); have n1_ := Aside0.mk (hbox); have n2_ := Aside0.mk ((by rw [hg]; exact (below_size (by repeat (first | (with_reducible first | exact HB.out | apply below_alloc | apply pw_below_drewN | apply below_drew1) | exact HB.out))) : w.heap.size ≤ gb108)); have n3_ := Aside0.mk ((by rw [hg]; exact (below_size (by repeat (first | (with_reducible first | exact HB.out | apply below_alloc | apply pw_below_drewN | apply below_drew1) | exact HB.out))) : w.heap.size ≤ gb108)); clear HB; have HB := n0_; have BK108 := n1_; have GW108 := n2_; have GE108 := n3_; clear n0_ n1_ n2_ n3_; clear hb hbox hg; have hcz14_0 : w13.cell? ⟨gb108, 0, none⟩ = some (.int .i64 a0_0) := (blk_cell BK108.out 0).trans rfl; have hcz14_1 : w13.cell? ⟨gb108, 1, none⟩ = some (.int .i64 a0_1) := (blk_cell BK108.out 1).trans rfl; have hcz14_2 : w13.cell? ⟨gb108, 2, none⟩ = some (.string a0_2) := (blk_cell BK108.out 2).trans rfl; have hcz14_3 : w13.cell? ⟨gb108, 3, none⟩ = some (.slice A0_3 l0_3.length c0_3) := (blk_cell BK108.out 3).trans rfl; have hfz14_0 := blk_frozen BK108.out 0; have hfz14_1 := blk_frozen BK108.out 1; have hfz14_2 := blk_frozen BK108.out 2; have hfz14_3 := blk_frozen BK108.out 3) | ((with_reducible refine gate_callee (f := 45) rfl ?_); refine goesL_ (some 23) rfl rfl Tryd.func45 (by kernel_rfl) rfl #[.string a0_2] rfl (by (try simp only [List.map_toArray, List.map_cons, List.map_nil]); first | done | rfl | (simp only [List.length_drop, List.length_take]; rfl)) ?_; (with_reducible refine (value_quoted.calls a0_2 t111 _ A12.out).mono ?_); rintro e w15 ⟨rfl, hb⟩; refine ⟨_, rfl, ?_⟩; have n0_ := Aside0.mk (blk_below (g := gb108) (o := .cells #[.int .i64 a0_0, .int .i64 a0_1, .string a0_2, .slice A0_3 l0_3.length c0_3] 60 (0, 0)) (by (with_reducible repeat (first | refine blk_drewN ?_ _ | refine blk_drew ?_ | refine blk_alloc ?_ _)); exact BK108.out) hb); have n1_ := Aside0.mk (below_step (by repeat (first | (with_reducible first | exact HB.out | apply below_alloc | apply pw_below_drewN | apply below_drew1 | refine below_set ?_ GE108.out) | exact HB.out)) hb); clear BK108; clear HB; have BK108 := n0_; have HB := n1_; clear n0_ n1_; (try clear hb); (try clear hb2); (try clear hk); (try clear hi)))
        go_ret
        exact ⟨by first | rfl | (simp [errW_none, errW_some] <;> rfl) | (simp [*, errW_none, errW_some] <;> rfl), by repeat (first | (with_reducible first | exact HB.out | apply below_alloc | apply pw_below_drewN | apply below_drew1 | refine below_set ?_ GE108.out) | exact HB.out)⟩
      · rw [if_neg c11] at H
        have c11b0 : (a0_0 == 3) = false := beq_eq_false_iff_ne.mpr c11
        have c11b1 : (a0_0 != 3) = true := bne_iff_ne.mpr c11
        by_cases c16 : a0_0 = 4
        · rw [if_pos c16] at H
          have c16b0 : (a0_0 == 4) = true := beq_iff_eq.mpr c16
          have c16b1 : (a0_0 != 4) = false := bne_eq_false_iff_eq.mpr c16
          clear c16
          by_cases c17 : 1 + a0_2.size ≤ 9223372036854775807
          · rw [if_pos c17] at H
            have c17b0 := eq_true c17
            have c17b1 : decide (1 + a0_2.size ≤ 9223372036854775807) = true := decide_eq_true c17
            try have c17b2 : (9223372036854775807 < 1 + a0_2.size) = False := eq_false (Nat.not_lt.2 c17)
            try (have c17s := c17; simp only [ByteArray.size_append, bsize_mk, List.size_toArray, List.length_cons, List.length_nil, Nat.reduceAdd, Nat.zero_add] at c17s)
            try have c17s2 := eq_false (Nat.not_lt.2 c17s)
            obtain rfl := Option.some.inj H
            go_enter Tryd.func32, Tryd.ntmps32
            go_wp2_with (first | ((with_reducible refine gate_dst (N := 1) rfl ?_); refine box_event ?hg (N := 1) ?hd (cs := #[.int .i64 a0_0, .int .i64 a0_1, .string a0_2, .slice A0_3 l0_3.length c0_3]) (t := 60) ?hr ?_; (case hd => rfl); (case hg => rfl); (case hr => first | (go_simp; done) | (go_simp; rfl)); intro gb108 hg w18 hbox hb; have n0_ := Aside0.mk (below_step (by repeat (first | (with_reducible first | exact HB.out | apply below_alloc | apply pw_below_drewN | apply below_drew1) | exact HB.out)) hb); have n1_ := Aside0.mk (hbox); have n2_ := Aside0.mk ((by rw [hg]; exact (below_size (by repeat (first | (with_reducible first | exact HB.out | apply below_alloc | apply pw_below_drewN | apply below_drew1) | exact HB.out))) : w.heap.size ≤ gb108)); have n3_ := Aside0.mk ((by rw [hg]; exact (below_size (by repeat (first | (with_reducible first | exact HB.out | apply below_alloc | apply pw_below_drewN | apply below_drew1) | exact HB.out))) : w.heap.size ≤ gb108)); clear HB; have HB := n0_; have BK108 := n1_; have GW108 := n2_; have GE108 := n3_; clear n0_ n1_ n2_ n3_; clear hb hbox hg; have hcz19_0 : w18.cell? ⟨gb108, 0, none⟩ = some (.int .i64 a0_0) := (blk_cell BK108.out 0).trans rfl; have hcz19_1 : w18.cell? ⟨gb108, 1, none⟩ = some (.int .i64 a0_1) := (blk_cell BK108.out 1).trans rfl; have hcz19_2 : w18.cell? ⟨gb108, 2, none⟩ = some (.string a0_2) := (blk_cell BK108.out 2).trans rfl; have hcz19_3 : w18.cell? ⟨gb108, 3, none⟩ = some (.slice A0_3 l0_3.length c0_3) := (blk_cell BK108.out 3).trans rfl; have hfz19_0 := blk_frozen BK108.out 0; have hfz19_1 := blk_frozen BK108.out 1; have hfz19_2 := blk_frozen BK108.out 2; have hfz19_3 := blk_frozen BK108.out 3))
            go_ret
            exact ⟨by first | rfl | (simp [errW_none, errW_some] <;> rfl) | (simp [*, errW_none, errW_some] <;> rfl), by repeat (first | (with_reducible first | exact HB.out | apply below_alloc | apply pw_below_drewN | apply below_drew1 | refine below_set ?_ GE108.out) | exact HB.out)⟩
          · rw [if_neg c17] at H
            exact absurd H (by simp)
        · rw [if_neg c16] at H
          have c16b0 : (a0_0 == 4) = false := beq_eq_false_iff_ne.mpr c16
          have c16b1 : (a0_0 != 4) = true := bne_iff_ne.mpr c16
          by_cases c20 : a0_0 = 5
          · rw [if_pos c20] at H
            have c20b0 : (a0_0 == 5) = true := beq_iff_eq.mpr c20
            have c20b1 : (a0_0 != 5) = false := bne_eq_false_iff_eq.mpr c20
            clear c20
            have H' := Aside0.mk H
            clear H
            go_enter Tryd.func32, Tryd.ntmps32
            go_wp2_with (first | ((with_reducible refine gate_dst (N := 1) rfl ?_); refine box_event ?hg (N := 1) ?hd (cs := #[.int .i64 a0_0, .int .i64 a0_1, .string a0_2, .slice A0_3 l0_3.length c0_3]) (t := 60) ?hr ?_; (case hd => rfl); (case hg => rfl); (case hr => first | (go_simp; done) | (go_simp; rfl)); intro gb108 hg w21 hbox hb; have n0_ := Aside0.mk (below_step (by repeat (first | (with_reducible first | exact HB.out | apply below_alloc | apply pw_below_drewN | apply below_drew1) | exact HB.out)) hb); have n1_ := Aside0.mk (hbox); have n2_ := Aside0.mk ((by rw [hg]; exact (below_size (by repeat (first | (with_reducible first | exact HB.out | apply below_alloc | apply pw_below_drewN | apply below_drew1) | exact HB.out))) : w.heap.size ≤ gb108)); have n3_ := Aside0.mk ((by rw [hg]; exact (below_size (by repeat (first | (with_reducible first | exact HB.out | apply below_alloc | apply pw_below_drewN | apply below_drew1) | exact HB.out))) : w.heap.size ≤ gb108)); clear HB; have HB := n0_; have BK108 := n1_; have GW108 := n2_; have GE108 := n3_; clear n0_ n1_ n2_ n3_; clear hb hbox hg; have hcz22_0 : w21.cell? ⟨gb108, 0, none⟩ = some (.int .i64 a0_0) := (blk_cell BK108.out 0).trans rfl; have hcz22_1 : w21.cell? ⟨gb108, 1, none⟩ = some (.int .i64 a0_1) := (blk_cell BK108.out 1).trans rfl; have hcz22_2 : w21.cell? ⟨gb108, 2, none⟩ = some (.string a0_2) := (blk_cell BK108.out 2).trans rfl; have hcz22_3 : w21.cell? ⟨gb108, 3, none⟩ = some (.slice A0_3 l0_3.length c0_3) := (blk_cell BK108.out 3).trans rfl; have hfz22_0 := blk_frozen BK108.out 0; have hfz22_1 := blk_frozen BK108.out 1; have hfz22_2 := blk_frozen BK108.out 2; have hfz22_3 := blk_frozen BK108.out 3))
            go_loopg [3, 34] k (fun kq v3 v34 w' => ∃ (x3_1 : List ByteArray) (x34_1 : Int), v34 = .int .i64 x34_1 ∧ Aside0 (value_Print.l0 kq x3_1 l0_3 (l0_3.length : Int) x34_1 = some r) ∧ Aside0 (kq ≤ k) ∧ Aside0 (Kd.R Kd.string 9 w' w.heap.size (fun _ => True) v3 x3_1) ∧ Aside0 (w'.heap[gb108]? = some (.cells #[.int .i64 a0_0, .int .i64 a0_1, .string a0_2, (.slice A0_3 l0_3.length c0_3)] 60 (0, 0))) ∧ Aside0 (Below w.heap.size w w'))
            case atStart => exact ⟨(([] : List ByteArray)), (0), (by first | rfl | (simp; done) | (simp [*]; done)), H', ⟨Nat.le_refl _⟩, ⟨by first | exact Kd.R_nil _ _ _ _ _ | exact Kd.N_nil _ _ _ _ _ | exact Kd.V_nil _ _ _ _ _ | exact Kd.Q_nil _ _ _ _ _ | exact Kd.S_nil _ _ _ _ _⟩, ⟨by (with_reducible repeat (first | refine blk_drewN ?_ _ | refine blk_drew ?_ | refine blk_alloc ?_ _)); exact BK108.out⟩, ⟨by repeat (first | (with_reducible first | exact HB.out | apply below_alloc | apply pw_below_drewN | apply below_drew1 | refine below_set ?_ GE108.out) | exact HB.out)⟩⟩
            case round =>
              clear H'
              try clear c1
              try clear c2
              try clear c2b0
              try clear c2b1
              try clear p2
              try clear c3
              try clear c4
              try clear c7
              try clear c7b0
              try clear c7b1
              try clear c11
              try clear c11b0
              try clear c11b1
              try clear c16
              try clear c16b0
              try clear c16b1
              try clear c17
              try clear c17b0
              try clear c17b1
              try clear c17b2
              try clear c20
              try clear c20b0
              try clear c20b1
              try clear hcz10_0
              try clear hcz10_1
              try clear hcz10_2
              try clear hcz10_3
              try clear hcz14_0
              try clear hcz14_1
              try clear hcz14_2
              try clear hcz14_3
              try clear hcz19_0
              try clear hcz19_1
              try clear hcz19_2
              try clear hcz19_3
              try clear hcz22_0
              try clear hcz22_1
              try clear hcz22_2
              try clear hcz22_3
              try clear hcz5_0
              try clear hcz5_1
              try clear hcz5_2
              try clear hcz5_3
              try clear hfz10_0
              try clear hfz10_1
              try clear hfz10_2
              try clear hfz10_3
              try clear hfz14_0
              try clear hfz14_1
              try clear hfz14_2
              try clear hfz14_3
              try clear hfz19_0
              try clear hfz19_1
              try clear hfz19_2
              try clear hfz19_3
              try clear hfz22_0
              try clear hfz22_1
              try clear hfz22_2
              try clear hfz22_3
              try clear hfz5_0
              try clear hfz5_1
              try clear hfz5_2
              try clear hfz5_3
              obtain ⟨x3_1, x34_1, rfl, HA, HK1, HO_3, BK108, HB⟩ := hrel
              cases gk with
              | zero => exact absurd HA.out (by simp [value_Print.l0])
              | succ k1 =>
                have H := HA.out
                clear HA
                simp only [value_Print.l0] at H
                by_cases c23 : x34_1 < (l0_3.length : Int)
                · rw [if_pos c23] at H
                  have c23b0 : decide (x34_1 < (l0_3.length : Int)) = true := decide_eq_true c23
                  clear c23
                  by_cases c24 : 0 ≤ x34_1
                  · rw [if_pos c24] at H
                    have c24b0 : decide (0 ≤ x34_1) = true := decide_eq_true c24
                    clear c24
                    by_cases c25 : x34_1 < (l0_3.length : Int)
                    · rw [if_pos c25] at H
                      have c25b0 : decide (x34_1 < (l0_3.length : Int)) = true := decide_eq_true c25
                      clear c25
                      replace H := Option.bind_eq_some_iff.mp H
                      obtain ⟨t113, A260, H⟩ := H
                      replace H : (if x3_1.length < 8796093022208 then (value_Print.l0 k1 (x3_1 ++ [t113]) l0_3 (l0_3.length : Int) (wrap64 (x34_1 + 1))) else (none)) = some r := H
                      have A26 := Aside0.mk A260
                      clear A260
                      by_cases c27 : x3_1.length < 8796093022208
                      · rw [if_pos c27] at H
                        have LMc27 := Aside0.mk c27
                        clear c27
                        obtain ⟨y114, hy114⟩ : ∃ y_ : List ByteArray, y_ = (x3_1 ++ [t113]) := ⟨_, rfl⟩
                        replace H : (value_Print.l0 k1 y114 l0_3 (l0_3.length : Int) (wrap64 (x34_1 + 1))) = some r := by first | (rw [hy114]; with_reducible exact H) | (have H2_ := (Option.bind_some _ _).symm.trans H; rw [hy114]; with_reducible exact H2_) | (have H2_ := (Option.bind_some _ _).symm.trans H; with_reducible exact H2_) | with_reducible exact H | (rw [hy114]; exact H) | exact H
                        have Ny114 := Aside0.mk hy114
                        clear hy114
                        have H' := Aside0.mk H
                        clear H
                        have p112 : 0 ≤ (x34_1 : Int) := of_decide_eq_true (by first | (with_reducible assumption) | assumption)
                        have q112 : x34_1 < (l0_3.length : Int) := of_decide_eq_true (by first | (with_reducible assumption) | assumption)
                        obtain ⟨ad112, e112, hx112_0⟩ := Kd.at_int HR0_3.out x34_1 p112 q112
                        cases e112
                        replace hx112_0 := (HB.out.cell (World.block_lt_of_cell? w _ hx112_0)).trans hx112_0
                        replace p112 := eq_true p112
                        replace q112 := eq_true q112
                        go_wp2_with (first | ((with_reducible refine gate_callee (f := 43) rfl ?_); refine goesL_ (some 40) rfl rfl Tryd.func43 (by kernel_rfl) rfl #[.int .i64 (rd l0_3 x34_1), .int .i64 10] rfl (by (try simp only [List.map_toArray, List.map_cons, List.map_nil]); first | done | rfl | (simp only [List.length_drop, List.length_take]; rfl)) ?_; (with_reducible refine (strconv_FormatInt.calls (rd l0_3 x34_1) 10 t113 _ A26.out (Tabs.below HT.out (by repeat (first | (with_reducible first | exact HB.out | apply below_alloc | apply pw_below_drewN | apply below_drew1 | refine below_set ?_ GE108.out) | exact HB.out)))).mono ?_); rintro e w28 ⟨rfl, hb⟩; refine ⟨_, rfl, ?_⟩; have n0_ := Aside0.mk (Kd.R_below (by (with_reducible repeat (first | apply Kd.R_alloc | apply Kd.R_drewN | apply Kd.R_drew)); exact HO_3.out) hb); have n1_ := Aside0.mk (blk_below (g := gb108) (o := .cells #[.int .i64 a0_0, .int .i64 a0_1, .string a0_2, .slice (some ad112) l0_3.length c0_3] 60 (0, 0)) (by (with_reducible repeat (first | refine blk_drewN ?_ _ | refine blk_drew ?_ | refine blk_alloc ?_ _)); exact BK108.out) hb); have n2_ := Aside0.mk (below_step (by repeat (first | (with_reducible first | exact HB.out | apply below_alloc | apply pw_below_drewN | apply below_drew1 | refine below_set ?_ GE108.out) | exact HB.out)) hb); clear HO_3; clear BK108; clear HB; have HO_3 := n0_; have BK108 := n1_; have HB := n2_; clear n0_ n1_ n2_; (try clear hb); (try clear hb2); (try clear hk); (try clear hi)) | ((with_reducible refine gate_builtin (b := .append) (xs := #[.tmp 38, .tmp 41]) rfl ?_); at_builtin; refine Kd.R_append Kd.string (w0 := w) w.heap.size rfl (.tmp 38) (.tmp 41) 40 9 (.string ⟨#[]⟩) 16 rfl Tryd.underlying40 info9 rfl (by decide) (by omega) u3 x3_1 t113 [.string t113] (fun _ => True) (fun _ => False) rfl rfl ?aP (fun _ hk => hk.elim) ?aF ?aO ?aB ?aS ?aL ?_; (case aP => exact rfl); (case aB => exact (by repeat (first | (with_reducible first | exact HB.out | apply below_alloc | apply pw_below_drewN | apply below_drew1 | refine below_set ?_ GE108.out) | exact HB.out))); (case aF => exact (fun _ _ => trivial)); (case aO => exact (by (with_reducible repeat (first | apply Kd.R_alloc | apply Kd.R_drewN | apply Kd.R_drew)); exact HO_3.out)); (case aS => exact (below_size (by repeat (first | (with_reducible first | exact HB.out | apply below_alloc | apply pw_below_drewN | apply below_drew1 | refine below_set ?_ GE108.out) | exact HB.out)))); (case aL => have := LMc27.out; omega); intro v115 w29 ho hb hg hat; rw [← Ny114.out] at ho; have n0_ := Aside0.mk (blk_grown (g := gb108) (o := .cells #[.int .i64 a0_0, .int .i64 a0_1, .string a0_2, .slice (some ad112) l0_3.length c0_3] 60 (0, 0)) (by (with_reducible repeat (first | refine blk_drewN ?_ _ | refine blk_drew ?_ | refine blk_alloc ?_ _)); exact BK108.out) hg (Kd.R_ne HO_3.out BK108.out (by decide))); have n1_ := Aside0.mk (hb); have n2_ := Aside0.mk (ho); clear BK108; clear HB; clear HO_3; have BK108 := n0_; have HB := n1_; have HO116 := n2_; clear n0_ n1_ n2_; clear ho hb hg hat))
                        go_roundg k1
                        case measure => have := HK1.out; omega
                        case rel => exact ⟨(y114), (wrap64 (x34_1 + 1)), (by first | rfl | (simp; done) | (simp [*]; done)), H', ⟨by have := HK1.out; omega⟩, ⟨by (with_reducible repeat (first | apply Kd.R_alloc | apply Kd.R_drewN | apply Kd.R_drew)); exact HO116.out⟩, ⟨by (with_reducible repeat (first | refine blk_drewN ?_ _ | refine blk_drew ?_ | refine blk_alloc ?_ _)); exact BK108.out⟩, ⟨by repeat (first | (with_reducible first | exact HB.out | apply below_alloc | apply pw_below_drewN | apply below_drew1 | refine below_set ?_ GE108.out) | exact HB.out)⟩⟩
                      · rw [if_neg c27] at H
                        exact absurd H (by simp)
                    · rw [if_neg c25] at H
                      exact absurd H (by simp)
                  · rw [if_neg c24] at H
                    exact absurd H (by simp)
                · rw [if_neg c23] at H
                  have c23b0 : decide (x34_1 < (l0_3.length : Int)) = false := decide_eq_false c23
                  clear c23
                  replace H := Option.bind_eq_some_iff.mp H
                  obtain ⟨t117, A300, H⟩ := H
                  replace H : (if 1 + t117.size ≤ 9223372036854775807 then (if ((⟨#[91]⟩ : ByteArray) ++ t117).size + 1 ≤ 9223372036854775807 then (some (((⟨#[91]⟩ : ByteArray) ++ t117) ++ (⟨#[93]⟩ : ByteArray))) else (none)) else (none)) = some r := H
                  have A30 := Aside0.mk A300
                  clear A300
                  by_cases c31 : 1 + t117.size ≤ 9223372036854775807
                  · rw [if_pos c31] at H
                    have c31b0 := eq_true c31
                    have c31b1 : decide (1 + t117.size ≤ 9223372036854775807) = true := decide_eq_true c31
                    try have c31b2 : (9223372036854775807 < 1 + t117.size) = False := eq_false (Nat.not_lt.2 c31)
                    try (have c31s := c31; simp only [ByteArray.size_append, bsize_mk, List.size_toArray, List.length_cons, List.length_nil, Nat.reduceAdd, Nat.zero_add] at c31s)
                    try have c31s2 := eq_false (Nat.not_lt.2 c31s)
                    by_cases c32 : ((⟨#[91]⟩ : ByteArray) ++ t117).size + 1 ≤ 9223372036854775807
                    · rw [if_pos c32] at H
                      have c32b0 := eq_true c32
                      have c32b1 : decide (((⟨#[91]⟩ : ByteArray) ++ t117).size + 1 ≤ 9223372036854775807) = true := decide_eq_true c32
                      try have c32b2 : (9223372036854775807 < ((⟨#[91]⟩ : ByteArray) ++ t117).size + 1) = False := eq_false (Nat.not_lt.2 c32)
                      try (have c32s := c32; simp only [ByteArray.size_append, bsize_mk, List.size_toArray, List.length_cons, List.length_nil, Nat.reduceAdd, Nat.zero_add] at c32s)
                      try have c32s2 := eq_false (Nat.not_lt.2 c32s)
                      obtain rfl := Option.some.inj H
                      obtain ⟨Ao33, co33, eo33⟩ := Kd.R_slice HO_3.out
                      subst eo33
                      go_wp2_with (first | ((with_reducible refine gate_callee (f := 17) rfl ?_); refine goesL_ (some 45) rfl rfl Tryd.func17 (by kernel_rfl) rfl #[.slice Ao33 x3_1.length co33, .string (⟨#[44, 32]⟩ : ByteArray)] rfl (by (try simp only [List.map_toArray, List.map_cons, List.map_nil]); first | done | rfl | (simp only [List.length_drop, List.length_take]; rfl)) ?_; (with_reducible refine (strings_Join.calls _ _ x3_1 (⟨#[44, 32]⟩ : ByteArray) t117 _ ?side1 ?side2 A30.out).mono ?_); (case side1 => repeat (first | exact (Kd.R_reads' HO_3.out).2.2 | (with_reducible refine Kd.C_alloc ?_ _) | (with_reducible refine Kd.C_drewN ?_ _) | (with_reducible refine Kd.C_drew ?_))); (case side2 => exact (Kd.R_reads' HO_3.out).2.1); rintro e w34 ⟨rfl, hb⟩; refine ⟨_, rfl, ?_⟩; have n0_ := Aside0.mk (Kd.R_below (by (with_reducible repeat (first | apply Kd.R_alloc | apply Kd.R_drewN | apply Kd.R_drew)); exact HO_3.out) hb); have n1_ := Aside0.mk (blk_below (g := gb108) (o := .cells #[.int .i64 a0_0, .int .i64 a0_1, .string a0_2, .slice A0_3 l0_3.length c0_3] 60 (0, 0)) (by (with_reducible repeat (first | refine blk_drewN ?_ _ | refine blk_drew ?_ | refine blk_alloc ?_ _)); exact BK108.out) hb); have n2_ := Aside0.mk (below_step (by repeat (first | (with_reducible first | exact HB.out | apply below_alloc | apply pw_below_drewN | apply below_drew1 | refine below_set ?_ GE108.out) | exact HB.out)) hb); clear HO_3; clear BK108; clear HB; have HO_3 := n0_; have BK108 := n1_; have HB := n2_; clear n0_ n1_ n2_; (try clear hb); (try clear hb2); (try clear hk); (try clear hi)))
                      go_ret
                      exact ⟨by first | rfl | (simp [errW_none, errW_some] <;> rfl) | (simp [*, errW_none, errW_some] <;> rfl), by repeat (first | (with_reducible first | exact HB.out | apply below_alloc | apply pw_below_drewN | apply below_drew1 | refine below_set ?_ GE108.out) | exact HB.out)⟩
                    · rw [if_neg c32] at H
                      exact absurd H (by simp)
                  · rw [if_neg c31] at H
                    exact absurd H (by simp)
          · rw [if_neg c20] at H
            have c20b0 : (a0_0 == 5) = false := beq_eq_false_iff_ne.mpr c20
            have c20b1 : (a0_0 != 5) = true := bne_iff_ne.mpr c20
            obtain rfl := Option.some.inj H
            go_enter Tryd.func32, Tryd.ntmps32
            go_wp2_with (first | ((with_reducible refine gate_dst (N := 1) rfl ?_); refine box_event ?hg (N := 1) ?hd (cs := #[.int .i64 a0_0, .int .i64 a0_1, .string a0_2, .slice A0_3 l0_3.length c0_3]) (t := 60) ?hr ?_; (case hd => rfl); (case hg => rfl); (case hr => first | (go_simp; done) | (go_simp; rfl)); intro gb108 hg w35 hbox hb; have n0_ := Aside0.mk (below_step (by repeat (first | (with_reducible first | exact HB.out | apply below_alloc | apply pw_below_drewN | apply below_drew1) | exact HB.out)) hb); have n1_ := Aside0.mk (hbox); have n2_ := Aside0.mk ((by rw [hg]; exact (below_size (by repeat (first | (with_reducible first | exact HB.out | apply below_alloc | apply pw_below_drewN | apply below_drew1) | exact HB.out))) : w.heap.size ≤ gb108)); have n3_ := Aside0.mk ((by rw [hg]; exact (below_size (by repeat (first | (with_reducible first | exact HB.out | apply below_alloc | apply pw_below_drewN | apply below_drew1) | exact HB.out))) : w.heap.size ≤ gb108)); clear HB; have HB := n0_; have BK108 := n1_; have GW108 := n2_; have GE108 := n3_; clear n0_ n1_ n2_ n3_; clear hb hbox hg; have hcz36_0 : w35.cell? ⟨gb108, 0, none⟩ = some (.int .i64 a0_0) := (blk_cell BK108.out 0).trans rfl; have hcz36_1 : w35.cell? ⟨gb108, 1, none⟩ = some (.int .i64 a0_1) := (blk_cell BK108.out 1).trans rfl; have hcz36_2 : w35.cell? ⟨gb108, 2, none⟩ = some (.string a0_2) := (blk_cell BK108.out 2).trans rfl; have hcz36_3 : w35.cell? ⟨gb108, 3, none⟩ = some (.slice A0_3 l0_3.length c0_3) := (blk_cell BK108.out 3).trans rfl; have hfz36_0 := blk_frozen BK108.out 0; have hfz36_1 := blk_frozen BK108.out 1; have hfz36_2 := blk_frozen BK108.out 2; have hfz36_3 := blk_frozen BK108.out 3))
            go_ret
            exact ⟨by first | rfl | (simp [errW_none, errW_some] <;> rfl) | (simp [*, errW_none, errW_some] <;> rfl), by repeat (first | (with_reducible first | exact HB.out | apply below_alloc | apply pw_below_drewN | apply below_drew1 | refine below_set ?_ GE108.out) | exact HB.out)⟩
end Go.Proofs.YtdjcechogbcdnaaDoor.XL
namespace Go.Proofs.YtdjcechogbcdnaaDoor.XL
open Go.RowKit Go.Proofs.YtdjcechogbcdnaaDoorW.PrintWords Go.Proofs.YtdjcechogbcdnaaDoorW.PrintLast Go.Proofs.YtdjcechogbcdnaaDoorW.PrintMore
attribute [local go_sem] max2_int min2_int max_two min_two max_three min_three max_four min_four   -- for this text's walks alone
set_option linter.unusedVariables false
set_option linter.unusedSimpArgs false
def switchyardref07_word.f (a0 : Int) : Option (Bool) := if a0 ≥ 48 then (if a0 ≤ 57 then (some true) else (if a0 ≥ 97 then (if a0 ≤ 122 then (some true) else (if a0 ≥ 65 then (if a0 ≤ 90 then (some true) else (some (a0 == 95))) else (some (a0 == 95)))) else (if a0 ≥ 65 then (if a0 ≤ 90 then (some true) else (some (a0 == 95))) else (some (a0 == 95))))) else (if a0 ≥ 97 then (if a0 ≤ 122 then (some true) else (if a0 ≥ 65 then (if a0 ≤ 90 then (some true) else (some (a0 == 95))) else (some (a0 == 95)))) else (if a0 ≥ 65 then (if a0 ≤ 90 then (some true) else (some (a0 == 95))) else (some (a0 == 95))))
set_option maxHeartbeats 4000000 in
set_option maxRecDepth 100000 in
theorem switchyardref07_word.calls (a0 : Int) (r : Bool) (w : World) (h : switchyardref07_word.f a0 = some r) :
    Calls Tryd.prog 26 #[.int .u8 a0] w fun e w' => e = .returned (.bool r) ∧ Drawn0 w w' := by
  have H : (if a0 ≥ 48 then (if a0 ≤ 57 then (some true) else (if a0 ≥ 97 then (if a0 ≤ 122 then (some true) else (if a0 ≥ 65 then (if a0 ≤ 90 then (some true) else (some (a0 == 95))) else (some (a0 == 95)))) else (if a0 ≥ 65 then (if a0 ≤ 90 then (some true) else (some (a0 == 95))) else (some (a0 == 95))))) else (if a0 ≥ 97 then (if a0 ≤ 122 then (some true) else (if a0 ≥ 65 then (if a0 ≤ 90 then (some true) else (some (a0 == 95))) else (some (a0 == 95)))) else (if a0 ≥ 65 then (if a0 ≤ 90 then (some true) else (some (a0 == 95))) else (some (a0 == 95))))) = some r := h
  clear h
  by_cases c2 : a0 ≥ 48
  · rw [if_pos c2] at H
    have c2b0 : decide (48 ≤ a0) = true := decide_eq_true c2
    clear c2
    by_cases c3 : a0 ≤ 57
    · rw [if_pos c3] at H
      have c3b0 : decide (a0 ≤ 57) = true := decide_eq_true c3
      clear c3
      obtain rfl := Option.some.inj H
      go_enter Tryd.func26, Tryd.ntmps26
      go_wp2
      go_ret
      exact ⟨by first | rfl | (simp; done) | (simp [*]; done), by repeat (first | exact Drawn0.refl _ | apply Drawn0.step)⟩
    · rw [if_neg c3] at H
      have c3b0 : decide (a0 ≤ 57) = false := decide_eq_false c3
      clear c3
      by_cases c4 : a0 ≥ 97
      · rw [if_pos c4] at H
        have c4b0 : decide (97 ≤ a0) = true := decide_eq_true c4
        clear c4
        by_cases c5 : a0 ≤ 122
        · rw [if_pos c5] at H
          have c5b0 : decide (a0 ≤ 122) = true := decide_eq_true c5
          clear c5
          obtain rfl := Option.some.inj H
          go_enter Tryd.func26, Tryd.ntmps26
          go_wp2
          go_ret
          exact ⟨by first | rfl | (simp; done) | (simp [*]; done), by repeat (first | exact Drawn0.refl _ | apply Drawn0.step)⟩
        · rw [if_neg c5] at H
          have c5b0 : decide (a0 ≤ 122) = false := decide_eq_false c5
          clear c5
          by_cases c6 : a0 ≥ 65
          · rw [if_pos c6] at H
            have c6b0 : decide (65 ≤ a0) = true := decide_eq_true c6
            clear c6
            by_cases c7 : a0 ≤ 90
            · rw [if_pos c7] at H
              have c7b0 : decide (a0 ≤ 90) = true := decide_eq_true c7
              clear c7
              obtain rfl := Option.some.inj H
              go_enter Tryd.func26, Tryd.ntmps26
              go_wp2
              go_ret
              exact ⟨by first | rfl | (simp; done) | (simp [*]; done), by repeat (first | exact Drawn0.refl _ | apply Drawn0.step)⟩
            · rw [if_neg c7] at H
              have c7b0 : decide (a0 ≤ 90) = false := decide_eq_false c7
              clear c7
              obtain rfl := Option.some.inj H
              go_enter Tryd.func26, Tryd.ntmps26
              go_wp2
              go_ret
              exact ⟨by first | rfl | (simp; done) | (simp [*]; done), by repeat (first | exact Drawn0.refl _ | apply Drawn0.step)⟩
          · rw [if_neg c6] at H
            have c6b0 : decide (65 ≤ a0) = false := decide_eq_false c6
            clear c6
            obtain rfl := Option.some.inj H
            go_enter Tryd.func26, Tryd.ntmps26
            go_wp2
            go_ret
            exact ⟨by first | rfl | (simp; done) | (simp [*]; done), by repeat (first | exact Drawn0.refl _ | apply Drawn0.step)⟩
      · rw [if_neg c4] at H
        have c4b0 : decide (97 ≤ a0) = false := decide_eq_false c4
        clear c4
        by_cases c8 : a0 ≥ 65
        · rw [if_pos c8] at H
          have c8b0 : decide (65 ≤ a0) = true := decide_eq_true c8
          clear c8
          by_cases c9 : a0 ≤ 90
          · rw [if_pos c9] at H
            have c9b0 : decide (a0 ≤ 90) = true := decide_eq_true c9
            clear c9
            obtain rfl := Option.some.inj H
            go_enter Tryd.func26, Tryd.ntmps26
            go_wp2
            go_ret
            exact ⟨by first | rfl | (simp; done) | (simp [*]; done), by repeat (first | exact Drawn0.refl _ | apply Drawn0.step)⟩
          · rw [if_neg c9] at H
            have c9b0 : decide (a0 ≤ 90) = false := decide_eq_false c9
            clear c9
            obtain rfl := Option.some.inj H
            go_enter Tryd.func26, Tryd.ntmps26
            go_wp2
            go_ret
            exact ⟨by first | rfl | (simp; done) | (simp [*]; done), by repeat (first | exact Drawn0.refl _ | apply Drawn0.step)⟩
        · rw [if_neg c8] at H
          have c8b0 : decide (65 ≤ a0) = false := decide_eq_false c8
          clear c8
          obtain rfl := Option.some.inj H
          go_enter Tryd.func26, Tryd.ntmps26
          go_wp2
          go_ret
          exact ⟨by first | rfl | (simp; done) | (simp [*]; done), by repeat (first | exact Drawn0.refl _ | apply Drawn0.step)⟩
  · rw [if_neg c2] at H
    have c2b0 : decide (48 ≤ a0) = false := decide_eq_false c2
    clear c2
    by_cases c10 : a0 ≥ 97
    · rw [if_pos c10] at H
      have c10b0 : decide (97 ≤ a0) = true := decide_eq_true c10
      clear c10
      by_cases c11 : a0 ≤ 122
      · rw [if_pos c11] at H
        have c11b0 : decide (a0 ≤ 122) = true := decide_eq_true c11
        clear c11
        obtain rfl := Option.some.inj H
        go_enter Tryd.func26, Tryd.ntmps26
        go_wp2
        go_ret
        exact ⟨by first | rfl | (simp; done) | (simp [*]; done), by repeat (first | exact Drawn0.refl _ | apply Drawn0.step)⟩
      · rw [if_neg c11] at H
        have c11b0 : decide (a0 ≤ 122) = false := decide_eq_false c11
        clear c11
        by_cases c12 : a0 ≥ 65
        · rw [if_pos c12] at H
          have c12b0 : decide (65 ≤ a0) = true := decide_eq_true c12
          clear c12
          by_cases c13 : a0 ≤ 90
          · rw [if_pos c13] at H
            have c13b0 : decide (a0 ≤ 90) = true := decide_eq_true c13
            clear c13
            obtain rfl := Option.some.inj H
            go_enter Tryd.func26, Tryd.ntmps26
            go_wp2
            go_ret
            exact ⟨by first | rfl | (simp; done) | (simp [*]; done), by repeat (first | exact Drawn0.refl _ | apply Drawn0.step)⟩
          · rw [if_neg c13] at H
            have c13b0 : decide (a0 ≤ 90) = false := decide_eq_false c13
            clear c13
            obtain rfl := Option.some.inj H
            go_enter Tryd.func26, Tryd.ntmps26
            go_wp2
            go_ret
            exact ⟨by first | rfl | (simp; done) | (simp [*]; done), by repeat (first | exact Drawn0.refl _ | apply Drawn0.step)⟩
        · rw [if_neg c12] at H
          have c12b0 : decide (65 ≤ a0) = false := decide_eq_false c12
          clear c12
          obtain rfl := Option.some.inj H
          go_enter Tryd.func26, Tryd.ntmps26
          go_wp2
          go_ret
          exact ⟨by first | rfl | (simp; done) | (simp [*]; done), by repeat (first | exact Drawn0.refl _ | apply Drawn0.step)⟩
    · rw [if_neg c10] at H
      have c10b0 : decide (97 ≤ a0) = false := decide_eq_false c10
      clear c10
      by_cases c14 : a0 ≥ 65
      · rw [if_pos c14] at H
        have c14b0 : decide (65 ≤ a0) = true := decide_eq_true c14
        clear c14
        by_cases c15 : a0 ≤ 90
        · rw [if_pos c15] at H
          have c15b0 : decide (a0 ≤ 90) = true := decide_eq_true c15
          clear c15
          obtain rfl := Option.some.inj H
          go_enter Tryd.func26, Tryd.ntmps26
          go_wp2
          go_ret
          exact ⟨by first | rfl | (simp; done) | (simp [*]; done), by repeat (first | exact Drawn0.refl _ | apply Drawn0.step)⟩
        · rw [if_neg c15] at H
          have c15b0 : decide (a0 ≤ 90) = false := decide_eq_false c15
          clear c15
          obtain rfl := Option.some.inj H
          go_enter Tryd.func26, Tryd.ntmps26
          go_wp2
          go_ret
          exact ⟨by first | rfl | (simp; done) | (simp [*]; done), by repeat (first | exact Drawn0.refl _ | apply Drawn0.step)⟩
      · rw [if_neg c14] at H
        have c14b0 : decide (65 ≤ a0) = false := decide_eq_false c14
        clear c14
        obtain rfl := Option.some.inj H
        go_enter Tryd.func26, Tryd.ntmps26
        go_wp2
        go_ret
        exact ⟨by first | rfl | (simp; done) | (simp [*]; done), by repeat (first | exact Drawn0.refl _ | apply Drawn0.step)⟩
def switchyardref06_in.l0 : Nat → Int → ByteArray → Int → Option (Bool)
  | 0, _, _, _ => none
  | k + 1, x0, x1, x5 => if x5 < (x1.size : Int) then (if 0 ≤ x5 then (if (bt x1 x5) = x0 then (some true) else (switchyardref06_in.l0 k x0 x1 (wrap64 (x5 + 1)))) else (none)) else (some false)
def switchyardref06_in.f (k : Nat) (a0 : Int) (a1 : ByteArray) : Option (Bool) := switchyardref06_in.l0 k a0 a1 0
set_option maxHeartbeats 4000000 in
set_option maxRecDepth 100000 in
theorem switchyardref06_in.calls (k : Nat) (a0 : Int) (a1 : ByteArray) (r : Bool) (w : World) (h : switchyardref06_in.f k a0 a1 = some r) :
    Calls Tryd.prog 41 #[.int .u8 a0, .string a1] w fun e w' => e = .returned (.bool r) ∧ Drawn0 w w' := by
  have H : (switchyardref06_in.l0 k a0 a1 0) = some r := h
  clear h
  have H' := Aside0.mk H
  clear H
  go_enter Tryd.func41, Tryd.ntmps41
  go_wp2
  go_loopg [5] k (fun kq v5 w' => ∃ (x5_1 : Int), v5 = .int .i64 x5_1 ∧ Aside0 (switchyardref06_in.l0 kq a0 a1 x5_1 = some r) ∧ Aside0 (kq ≤ k) ∧ Drawn0 w w')
  case atStart => exact ⟨(0), (by first | rfl | (simp; done) | (simp [*]; done)), H', ⟨Nat.le_refl _⟩, by repeat (first | exact Drawn0.refl _ | apply Drawn0.step)⟩
  case round =>
    clear H'
    try clear p2
    obtain ⟨x5_1, rfl, HA, HK1, ⟨m1, rfl⟩⟩ := hrel
    cases gk with
    | zero => exact absurd HA.out (by simp [switchyardref06_in.l0])
    | succ k1 =>
      have H := HA.out
      clear HA
      simp only [switchyardref06_in.l0] at H
      by_cases c3 : x5_1 < (a1.size : Int)
      · rw [if_pos c3] at H
        have c3b0 : decide (x5_1 < (a1.size : Int)) = true := decide_eq_true c3
        clear c3
        by_cases c4 : 0 ≤ x5_1
        · rw [if_pos c4] at H
          have c4b0 : decide (0 ≤ x5_1) = true := decide_eq_true c4
          clear c4
          by_cases c6 : (bt a1 x5_1) = a0
          · rw [if_pos c6] at H
            have c6b0 : ((bt a1 x5_1) == a0) = true := beq_iff_eq.mpr c6
            have c6b1 : ((bt a1 x5_1) != a0) = false := bne_eq_false_iff_eq.mpr c6
            clear c6
            obtain rfl := Option.some.inj H
            have p5 : 0 ≤ (x5_1 : Int) := of_decide_eq_true (by first | (with_reducible assumption) | assumption)
            have q5 : x5_1 < (a1.size : Int) := of_decide_eq_true (by first | (with_reducible assumption) | assumption)
            have hx5 := bt_at a1 x5_1
            replace p5 := eq_true p5
            replace q5 := eq_true q5
            go_wp2
            go_ret
            exact ⟨by first | rfl | (simp; done) | (simp [*]; done), by repeat (first | exact Drawn0.refl _ | apply Drawn0.step)⟩
          · rw [if_neg c6] at H
            have c6b0 : ((bt a1 x5_1) == a0) = false := beq_eq_false_iff_ne.mpr c6
            have c6b1 : ((bt a1 x5_1) != a0) = true := bne_iff_ne.mpr c6
            have H' := Aside0.mk H
            clear H
            have p5 : 0 ≤ (x5_1 : Int) := of_decide_eq_true (by first | (with_reducible assumption) | assumption)
            have q5 : x5_1 < (a1.size : Int) := of_decide_eq_true (by first | (with_reducible assumption) | assumption)
            have hx5 := bt_at a1 x5_1
            replace p5 := eq_true p5
            replace q5 := eq_true q5
            go_wp2
            go_roundg k1
            case measure => have := HK1.out; omega
            case rel => exact ⟨(wrap64 (x5_1 + 1)), (by first | rfl | (simp; done) | (simp [*]; done)), H', ⟨by have := HK1.out; omega⟩, by repeat (first | exact Drawn0.refl _ | apply Drawn0.step)⟩
        · rw [if_neg c4] at H
          exact absurd H (by simp)
      · rw [if_neg c3] at H
        have c3b0 : decide (x5_1 < (a1.size : Int)) = false := decide_eq_false c3
        clear c3
        obtain rfl := Option.some.inj H
        go_wp2
        go_ret
        exact ⟨by first | rfl | (simp; done) | (simp [*]; done), by repeat (first | exact Drawn0.refl _ | apply Drawn0.step)⟩
end Go.Proofs.YtdjcechogbcdnaaDoor.XL
namespace Go.Proofs.YtdjcechogbcdnaaDoor.XL
open Go.RowKit Go.Proofs.YtdjcechogbcdnaaDoorW.PrintWords Go.Proofs.YtdjcechogbcdnaaDoorW.PrintLast Go.Proofs.YtdjcechogbcdnaaDoorW.PrintMore
attribute [local go_sem] max2_int min2_int max_two min_two max_three min_three max_four min_four   -- for this text's walks alone
set_option linter.unusedVariables false
set_option linter.unusedSimpArgs false
mutual
def switchyardref06_Name.j0 : Nat → ByteArray → Bool → Option (Bool)
  | 0, _, _ => none
  | k + 1, x0, x3 => switchyardref06_Name.l0 k x0 x3 0
def switchyardref06_Name.l0 : Nat → ByteArray → Bool → Int → Option (Bool)
  | 0, _, _, _ => none
  | k + 1, x0, x3, x4 => if x4 < (x0.size : Int) then (switchyardref06_Name.j2 k x0 x3 x4 x3) else (switchyardref06_Name.j2 k x0 x3 x4 false)
def switchyardref06_Name.j2 : Nat → ByteArray → Bool → Int → Bool → Option (Bool)
  | 0, _, _, _, _ => none
  | k + 1, x0, x3, x4, x19 => if x19 = true then (if 0 ≤ x4 then (if x4 < (x0.size : Int) then ((switchyardref06_in.f k (bt x0 x4) (⟨#[97, 98, 99, 100, 101, 102, 103, 104, 105, 106, 107, 108, 109, 110, 111, 112, 113, 114, 115, 116, 117, 118, 119, 120, 121, 122, 65, 66, 67, 68, 69, 70, 71, 72, 73, 74, 75, 76, 77, 78, 79, 80, 81, 82, 83, 84, 85, 86, 87, 88, 89, 90]⟩ : ByteArray)).bind fun t188 => (if t188 = true then (switchyardref06_Name.l0 k x0 true (wrap64 (x4 + 1))) else (if x4 > 0 then ((switchyardref06_in.f k (bt x0 x4) (⟨#[48, 49, 50, 51, 52, 53, 54, 55, 56, 57, 95]⟩ : ByteArray)).bind fun t189 => (switchyardref06_Name.l0 k x0 t189 (wrap64 (x4 + 1)))) else (switchyardref06_Name.l0 k x0 false (wrap64 (x4 + 1)))))) else (none)) else (none)) else (some x3)
end
def switchyardref06_Name.f (k : Nat) (a0 : ByteArray) : Option (Bool) := if (a0.size : Int) > 0 then (switchyardref06_Name.j0 k a0 (decide ((a0.size : Int) ≤ 24))) else (switchyardref06_Name.j0 k a0 false)
set_option maxHeartbeats 4000000 in
set_option maxRecDepth 100000 in
theorem switchyardref06_Name.calls (k : Nat) (a0 : ByteArray) (r : Bool) (w : World) (h : switchyardref06_Name.f k a0 = some r) :
    Calls Tryd.prog 27 #[.string a0] w fun e w' => e = .returned (.bool r) ∧ Drawn0 w w' := by
  have H : (if (a0.size : Int) > 0 then (switchyardref06_Name.j0 k a0 (decide ((a0.size : Int) ≤ 24))) else (switchyardref06_Name.j0 k a0 false)) = some r := h
  clear h
  have HC2 := Aside0.mk H
  clear H
  go_enter Tryd.func27, Tryd.ntmps27
  go_upto_region 1 with (fail)
  go_cut [3] (fun v3 wc => ∃ (kq : Nat) (x3_1 : Bool), v3 = .bool x3_1 ∧ Aside0 (switchyardref06_Name.j0 kq a0 x3_1 = some r) ∧ Aside0 (kq ≤ k) ∧ Drawn0 w wc)
  case first =>
    have H := HC2.out
    clear HC2
    by_cases c3 : (a0.size : Int) > 0
    · rw [if_pos c3] at H
      have c3b0 : decide (0 < (a0.size : Int)) = true := decide_eq_true c3
      have c3b1 : decide (0 < a0.size) = true := decide_eq_true (by omega)
      clear c3
      (first | rw [c3b0] | (simp only [i64_w, i32_w]; rw [c3b0]) | skip)
      have H' := Aside0.mk H
      clear H
      go_wp2
      go_meet
      case rel => exact ⟨_, (decide ((a0.size : Int) ≤ 24)), (by first | rfl | (simp; done) | (simp [*]; done)), H', ⟨by first | omega | exact Nat.le_refl _⟩, by repeat (first | exact Drawn0.refl _ | apply Drawn0.step)⟩
    · rw [if_neg c3] at H
      have c3b0 : decide (0 < (a0.size : Int)) = false := decide_eq_false c3
      have c3b1 : decide (0 < a0.size) = false := decide_eq_false (by omega)
      clear c3
      (first | rw [c3b0] | (simp only [i64_w, i32_w]; rw [c3b0]) | skip)
      have H' := Aside0.mk H
      clear H
      go_wp2
      go_meet
      case rel => exact ⟨_, (false), (by first | rfl | (simp; done) | (simp [*]; done)), H', ⟨by first | omega | exact Nat.le_refl _⟩, by repeat (first | exact Drawn0.refl _ | apply Drawn0.step)⟩
  case rest =>
    clear HC2
    try clear c2
    try clear p2
    try clear c3
    try clear c3b0
    try clear c3b1
    obtain ⟨kq, x3_1, rfl, HA, HJ1, ⟨mc1, rfl⟩⟩ := hcut
    cases kq with
    | zero => exact absurd HA.out (by simp [switchyardref06_Name.j0])
    | succ kj1 =>
      have H := HA.out
      clear HA
      simp only [switchyardref06_Name.j0] at H
      have H' := Aside0.mk H
      clear H
      go_wp2
      go_loopg [3, 4] kj1 (fun kq v3 v4 w' => ∃ (x3_2 : Bool) (x4_2 : Int), v3 = .bool x3_2 ∧ v4 = .int .i64 x4_2 ∧ Aside0 (switchyardref06_Name.l0 kq a0 x3_2 x4_2 = some r) ∧ Aside0 (kq ≤ kj1) ∧ Drawn0 w w')
      case atStart => exact ⟨(x3_1), (0), (by first | rfl | (simp; done) | (simp [*]; done)), (by first | rfl | (simp; done) | (simp [*]; done)), H', ⟨Nat.le_refl _⟩, by repeat (first | exact Drawn0.refl _ | apply Drawn0.step)⟩
      case round =>
        clear H'
        try clear c1
        try clear c2
        try clear p2
        try clear c3
        try clear c3b0
        try clear c3b1
        try clear p2
        obtain ⟨x3_2, x4_2, rfl, rfl, HA, HK2, ⟨m2, rfl⟩⟩ := hrel
        cases gk with
        | zero => exact absurd HA.out (by simp [switchyardref06_Name.l0])
        | succ k2 =>
          have H := HA.out
          clear HA
          simp only [switchyardref06_Name.l0] at H
          have HC4 := Aside0.mk H
          clear H
          go_upto_region 3 with (fail)
          go_cut [19] (fun v19 wc => ∃ (kq : Nat) (x19_3 : Bool), v19 = .bool x19_3 ∧ Aside0 (switchyardref06_Name.j2 kq a0 x3_2 x4_2 x19_3 = some r) ∧ Aside0 (kq ≤ k2) ∧ Drawn0 w wc)
          case first =>
            have H := HC4.out
            clear HC4
            by_cases c5 : x4_2 < (a0.size : Int)
            · rw [if_pos c5] at H
              have c5b0 : decide (x4_2 < (a0.size : Int)) = true := decide_eq_true c5
              clear c5
              (first | rw [c5b0] | (simp only [i64_w, i32_w]; rw [c5b0]) | skip)
              have H' := Aside0.mk H
              clear H
              go_wp2
              go_meet
              case rel => exact ⟨_, (x3_2), (by first | rfl | (simp; done) | (simp [*]; done)), H', ⟨by have := HJ1.out; have := HK2.out; first | omega | exact Nat.le_refl _⟩, by repeat (first | exact Drawn0.refl _ | apply Drawn0.step)⟩
            · rw [if_neg c5] at H
              have c5b0 : decide (x4_2 < (a0.size : Int)) = false := decide_eq_false c5
              clear c5
              (first | rw [c5b0] | (simp only [i64_w, i32_w]; rw [c5b0]) | skip)
              have H' := Aside0.mk H
              clear H
              go_wp2
              go_meet
              case rel => exact ⟨_, (false), (by first | rfl | (simp; done) | (simp [*]; done)), H', ⟨by have := HJ1.out; have := HK2.out; first | omega | exact Nat.le_refl _⟩, by repeat (first | exact Drawn0.refl _ | apply Drawn0.step)⟩
          case rest =>
            clear HC4
            try clear c1
            try clear c2
            try clear p2
            try clear c3
            try clear c3b0
            try clear c3b1
            try clear c5
            try clear c5b0
            try clear p2
            obtain ⟨kq, x19_3, rfl, HA, HJ3, ⟨mc3, rfl⟩⟩ := hcut
            cases kq with
            | zero => exact absurd HA.out (by simp [switchyardref06_Name.j2])
            | succ kj3 =>
              have H := HA.out
              clear HA
              simp only [switchyardref06_Name.j2] at H
              by_cases c6 : x19_3 = true
              · subst c6
                have H1 : (if 0 ≤ x4_2 then (if x4_2 < (a0.size : Int) then ((switchyardref06_in.f kj3 (bt a0 x4_2) (⟨#[97, 98, 99, 100, 101, 102, 103, 104, 105, 106, 107, 108, 109, 110, 111, 112, 113, 114, 115, 116, 117, 118, 119, 120, 121, 122, 65, 66, 67, 68, 69, 70, 71, 72, 73, 74, 75, 76, 77, 78, 79, 80, 81, 82, 83, 84, 85, 86, 87, 88, 89, 90]⟩ : ByteArray)).bind fun t188 => (if t188 = true then (switchyardref06_Name.l0 kj3 a0 true (wrap64 (x4_2 + 1))) else (if x4_2 > 0 then ((switchyardref06_in.f kj3 (bt a0 x4_2) (⟨#[48, 49, 50, 51, 52, 53, 54, 55, 56, 57, 95]⟩ : ByteArray)).bind fun t189 => (switchyardref06_Name.l0 kj3 a0 t189 (wrap64 (x4_2 + 1)))) else (switchyardref06_Name.l0 kj3 a0 false (wrap64 (x4_2 + 1)))))) else (none)) else (none)) = some r := by rw [if_pos rfl] at H; exact H
                clear H
                have H := H1
                clear H1
                by_cases c7 : 0 ≤ x4_2
                · rw [if_pos c7] at H
                  have c7b0 : decide (0 ≤ x4_2) = true := decide_eq_true c7
                  clear c7
                  by_cases c8 : x4_2 < (a0.size : Int)
                  · rw [if_pos c8] at H
                    have c8b0 : decide (x4_2 < (a0.size : Int)) = true := decide_eq_true c8
                    clear c8
                    replace H := Option.bind_eq_some_iff.mp H
                    obtain ⟨t188, A100, H⟩ := H
                    replace H : (if t188 = true then (switchyardref06_Name.l0 kj3 a0 true (wrap64 (x4_2 + 1))) else (if x4_2 > 0 then ((switchyardref06_in.f kj3 (bt a0 x4_2) (⟨#[48, 49, 50, 51, 52, 53, 54, 55, 56, 57, 95]⟩ : ByteArray)).bind fun t189 => (switchyardref06_Name.l0 kj3 a0 t189 (wrap64 (x4_2 + 1)))) else (switchyardref06_Name.l0 kj3 a0 false (wrap64 (x4_2 + 1))))) = some r := H
                    have A10 := Aside0.mk A100
                    clear A100
                    by_cases c11 : t188 = true
                    · subst c11
                      have H1 : (switchyardref06_Name.l0 kj3 a0 true (wrap64 (x4_2 + 1))) = some r := by rw [if_pos rfl] at H; exact H
                      clear H
                      have H := H1
                      clear H1
                      have H' := Aside0.mk H
                      clear H
                      have p9 : 0 ≤ (x4_2 : Int) := of_decide_eq_true (by first | (with_reducible assumption) | assumption)
                      have q9 : x4_2 < (a0.size : Int) := of_decide_eq_true (by first | (with_reducible assumption) | assumption)
                      have hx9 := bt_at a0 x4_2
                      replace p9 := eq_true p9
                      replace q9 := eq_true q9
                      go_wp2_with (first | ((with_reducible refine gate_callee (f := 41) rfl ?_); refine goesL_ (some 25) rfl rfl Tryd.func41 (by kernel_rfl) rfl #[.int .u8 (bt a0 x4_2), .string (⟨#[97, 98, 99, 100, 101, 102, 103, 104, 105, 106, 107, 108, 109, 110, 111, 112, 113, 114, 115, 116, 117, 118, 119, 120, 121, 122, 65, 66, 67, 68, 69, 70, 71, 72, 73, 74, 75, 76, 77, 78, 79, 80, 81, 82, 83, 84, 85, 86, 87, 88, 89, 90]⟩ : ByteArray)] rfl (by (try simp only [List.map_toArray, List.map_cons, List.map_nil]); first | done | rfl | (simp only [List.length_drop, List.length_take]; rfl)) ?_; (with_reducible refine (switchyardref06_in.calls kj3 (bt a0 x4_2) (⟨#[97, 98, 99, 100, 101, 102, 103, 104, 105, 106, 107, 108, 109, 110, 111, 112, 113, 114, 115, 116, 117, 118, 119, 120, 121, 122, 65, 66, 67, 68, 69, 70, 71, 72, 73, 74, 75, 76, 77, 78, 79, 80, 81, 82, 83, 84, 85, 86, 87, 88, 89, 90]⟩ : ByteArray) true _ A10.out).mono ?_); rintro e w' ⟨rfl, ⟨nd, rfl⟩⟩; refine ⟨_, rfl, ?_⟩))
                      go_roundg kj3
                      case measure => have := HJ1.out; have := HK2.out; have := HJ3.out; omega
                      case rel => exact ⟨(true), (wrap64 (x4_2 + 1)), (by first | rfl | (simp; done) | (simp [*]; done)), (by first | rfl | (simp; done) | (simp [*]; done)), H', ⟨by have := HJ1.out; have := HK2.out; have := HJ3.out; omega⟩, by repeat (first | exact Drawn0.refl _ | apply Drawn0.step)⟩
                    · replace c11 := Bool.eq_false_iff.mpr c11
                      subst c11
                      have H1 : (if x4_2 > 0 then ((switchyardref06_in.f kj3 (bt a0 x4_2) (⟨#[48, 49, 50, 51, 52, 53, 54, 55, 56, 57, 95]⟩ : ByteArray)).bind fun t189 => (switchyardref06_Name.l0 kj3 a0 t189 (wrap64 (x4_2 + 1)))) else (switchyardref06_Name.l0 kj3 a0 false (wrap64 (x4_2 + 1)))) = some r := by rw [if_neg (show ¬ (false = true) by decide)] at H; exact H
                      clear H
                      have H := H1
                      clear H1
                      by_cases c12 : x4_2 > 0
                      · rw [if_pos c12] at H
                        have c12b0 : decide (0 < x4_2) = true := decide_eq_true c12
                        clear c12
                        replace H := Option.bind_eq_some_iff.mp H
                        obtain ⟨t189, A140, H⟩ := H
                        replace H : (switchyardref06_Name.l0 kj3 a0 t189 (wrap64 (x4_2 + 1))) = some r := H
                        have A14 := Aside0.mk A140
                        clear A140
                        have H' := Aside0.mk H
                        clear H
                        have p9 : 0 ≤ (x4_2 : Int) := of_decide_eq_true (by first | (with_reducible assumption) | assumption)
                        have q9 : x4_2 < (a0.size : Int) := of_decide_eq_true (by first | (with_reducible assumption) | assumption)
                        have hx9 := bt_at a0 x4_2
                        replace p9 := eq_true p9
                        replace q9 := eq_true q9
                        go_wp2_with (first | ((with_reducible refine gate_callee (f := 41) rfl ?_); refine goesL_ (some 25) rfl rfl Tryd.func41 (by kernel_rfl) rfl #[.int .u8 (bt a0 x4_2), .string (⟨#[97, 98, 99, 100, 101, 102, 103, 104, 105, 106, 107, 108, 109, 110, 111, 112, 113, 114, 115, 116, 117, 118, 119, 120, 121, 122, 65, 66, 67, 68, 69, 70, 71, 72, 73, 74, 75, 76, 77, 78, 79, 80, 81, 82, 83, 84, 85, 86, 87, 88, 89, 90]⟩ : ByteArray)] rfl (by (try simp only [List.map_toArray, List.map_cons, List.map_nil]); first | done | rfl | (simp only [List.length_drop, List.length_take]; rfl)) ?_; (with_reducible refine (switchyardref06_in.calls kj3 (bt a0 x4_2) (⟨#[97, 98, 99, 100, 101, 102, 103, 104, 105, 106, 107, 108, 109, 110, 111, 112, 113, 114, 115, 116, 117, 118, 119, 120, 121, 122, 65, 66, 67, 68, 69, 70, 71, 72, 73, 74, 75, 76, 77, 78, 79, 80, 81, 82, 83, 84, 85, 86, 87, 88, 89, 90]⟩ : ByteArray) false _ A10.out).mono ?_); rintro e w' ⟨rfl, ⟨nd, rfl⟩⟩; refine ⟨_, rfl, ?_⟩; have p13 : 0 ≤ (x4_2 : Int) := of_decide_eq_true (by first | (with_reducible assumption) | assumption); have q13 : x4_2 < (a0.size : Int) := of_decide_eq_true (by first | (with_reducible assumption) | assumption); have hx13 := bt_at a0 x4_2; replace p13 := eq_true p13; replace q13 := eq_true q13) | (go_at_call 41; refine calls_of_args (args' := #[.int .u8 (bt a0 x4_2), .string (⟨#[48, 49, 50, 51, 52, 53, 54, 55, 56, 57, 95]⟩ : ByteArray)]) (by first | rfl) ?_; (with_reducible refine (switchyardref06_in.calls kj3 (bt a0 x4_2) (⟨#[48, 49, 50, 51, 52, 53, 54, 55, 56, 57, 95]⟩ : ByteArray) t189 _ A14.out).mono ?_); rintro e w' ⟨rfl, ⟨nd, rfl⟩⟩))
                        go_roundg kj3
                        case measure => have := HJ1.out; have := HK2.out; have := HJ3.out; omega
                        case rel => exact ⟨(t189), (wrap64 (x4_2 + 1)), (by first | rfl | (simp; done) | (simp [*]; done)), (by first | rfl | (simp; done) | (simp [*]; done)), H', ⟨by have := HJ1.out; have := HK2.out; have := HJ3.out; omega⟩, by repeat (first | exact Drawn0.refl _ | apply Drawn0.step)⟩
                      · rw [if_neg c12] at H
                        have c12b0 : decide (0 < x4_2) = false := decide_eq_false c12
                        clear c12
                        have H' := Aside0.mk H
                        clear H
                        have p9 : 0 ≤ (x4_2 : Int) := of_decide_eq_true (by first | (with_reducible assumption) | assumption)
                        have q9 : x4_2 < (a0.size : Int) := of_decide_eq_true (by first | (with_reducible assumption) | assumption)
                        have hx9 := bt_at a0 x4_2
                        replace p9 := eq_true p9
                        replace q9 := eq_true q9
                        go_wp2_with (first | ((with_reducible refine gate_callee (f := 41) rfl ?_); refine goesL_ (some 25) rfl rfl Tryd.func41 (by kernel_rfl) rfl #[.int .u8 (bt a0 x4_2), .string (⟨#[97, 98, 99, 100, 101, 102, 103, 104, 105, 106, 107, 108, 109, 110, 111, 112, 113, 114, 115, 116, 117, 118, 119, 120, 121, 122, 65, 66, 67, 68, 69, 70, 71, 72, 73, 74, 75, 76, 77, 78, 79, 80, 81, 82, 83, 84, 85, 86, 87, 88, 89, 90]⟩ : ByteArray)] rfl (by (try simp only [List.map_toArray, List.map_cons, List.map_nil]); first | done | rfl | (simp only [List.length_drop, List.length_take]; rfl)) ?_; (with_reducible refine (switchyardref06_in.calls kj3 (bt a0 x4_2) (⟨#[97, 98, 99, 100, 101, 102, 103, 104, 105, 106, 107, 108, 109, 110, 111, 112, 113, 114, 115, 116, 117, 118, 119, 120, 121, 122, 65, 66, 67, 68, 69, 70, 71, 72, 73, 74, 75, 76, 77, 78, 79, 80, 81, 82, 83, 84, 85, 86, 87, 88, 89, 90]⟩ : ByteArray) false _ A10.out).mono ?_); rintro e w' ⟨rfl, ⟨nd, rfl⟩⟩; refine ⟨_, rfl, ?_⟩))
                        go_roundg kj3
                        case measure => have := HJ1.out; have := HK2.out; have := HJ3.out; omega
                        case rel => exact ⟨(false), (wrap64 (x4_2 + 1)), (by first | rfl | (simp; done) | (simp [*]; done)), (by first | rfl | (simp; done) | (simp [*]; done)), H', ⟨by have := HJ1.out; have := HK2.out; have := HJ3.out; omega⟩, by repeat (first | exact Drawn0.refl _ | apply Drawn0.step)⟩
                  · rw [if_neg c8] at H
                    exact absurd H (by simp)
                · rw [if_neg c7] at H
                  exact absurd H (by simp)
              · replace c6 := Bool.eq_false_iff.mpr c6
                subst c6
                have H1 : (some x3_2) = some r := by rw [if_neg (show ¬ (false = true) by decide)] at H; exact H
                clear H
                have H := H1
                clear H1
                obtain rfl := Option.some.inj H
                go_wp2
                go_ret
                exact ⟨by first | rfl | (simp; done) | (simp [*]; done), by repeat (first | exact Drawn0.refl _ | apply Drawn0.step)⟩
end Go.Proofs.YtdjcechogbcdnaaDoor.XL
namespace Go.Proofs.YtdjcechogbcdnaaDoor.XL
open Go.RowKit Go.Proofs.YtdjcechogbcdnaaDoorW.PrintWords Go.Proofs.YtdjcechogbcdnaaDoorW.PrintLast Go.Proofs.YtdjcechogbcdnaaDoorW.PrintMore
attribute [local go_sem] max2_int min2_int max_two min_two max_three min_three max_four min_four   -- for this text's walks alone
set_option linter.unusedVariables false
set_option linter.unusedSimpArgs false
def switchyardref07_quoted.l0 : Nat → ByteArray → Int → Int → Option (Int)
  | 0, _, _, _ => none
  | k + 1, x0, x1, x5 => if x5 < (x0.size : Int) then (if 0 ≤ x5 then (if (bt x0 x5) = 92 then (switchyardref07_quoted.l0 k x0 x1 (wrap64 ((wrap64 (x5 + 1)) + 1))) else (if (bt x0 x5) = 34 then (some (wrap64 ((wrap64 (x5 + 1)) - x1))) else (switchyardref07_quoted.l0 k x0 x1 (wrap64 (x5 + 1))))) else (none)) else (some 0)
def switchyardref07_quoted.f (k : Nat) (a0 : ByteArray) (a1 : Int) : Option (Int) := switchyardref07_quoted.l0 k a0 a1 (wrap64 (a1 + 1))
set_option maxHeartbeats 4000000 in
set_option maxRecDepth 100000 in
theorem switchyardref07_quoted.calls (k : Nat) (a0 : ByteArray) (a1 : Int) (r : Int) (w : World) (h : switchyardref07_quoted.f k a0 a1 = some r) :
    Calls Tryd.prog 29 #[.string a0, .int .i64 a1] w fun e w' => e = .returned (.int .i64 r) ∧ Drawn0 w w' := by
  have H : (switchyardref07_quoted.l0 k a0 a1 (wrap64 (a1 + 1))) = some r := h
  clear h
  have H' := Aside0.mk H
  clear H
  go_enter Tryd.func29, Tryd.ntmps29
  go_wp2
  go_loopg [5] k (fun kq v5 w' => ∃ (x5_1 : Int), v5 = .int .i64 x5_1 ∧ Aside0 (switchyardref07_quoted.l0 kq a0 a1 x5_1 = some r) ∧ Aside0 (kq ≤ k) ∧ Drawn0 w w')
  case atStart => exact ⟨(wrap64 (a1 + 1)), (by first | rfl | (simp; done) | (simp [*]; done)), H', ⟨Nat.le_refl _⟩, by repeat (first | exact Drawn0.refl _ | apply Drawn0.step)⟩
  case round =>
    clear H'
    try clear c2
    try clear p2
    obtain ⟨x5_1, rfl, HA, HK1, ⟨m1, rfl⟩⟩ := hrel
    cases gk with
    | zero => exact absurd HA.out (by simp [switchyardref07_quoted.l0])
    | succ k1 =>
      have H := HA.out
      clear HA
      simp only [switchyardref07_quoted.l0] at H
      by_cases c3 : x5_1 < (a0.size : Int)
      · rw [if_pos c3] at H
        have c3b0 : decide (x5_1 < (a0.size : Int)) = true := decide_eq_true c3
        clear c3
        by_cases c4 : 0 ≤ x5_1
        · rw [if_pos c4] at H
          have c4b0 : decide (0 ≤ x5_1) = true := decide_eq_true c4
          clear c4
          by_cases c6 : (bt a0 x5_1) = 92
          · rw [if_pos c6] at H
            have c6b0 : ((bt a0 x5_1) == 92) = true := beq_iff_eq.mpr c6
            have c6b1 : ((bt a0 x5_1) != 92) = false := bne_eq_false_iff_eq.mpr c6
            clear c6
            have H' := Aside0.mk H
            clear H
            have p5 : 0 ≤ (x5_1 : Int) := of_decide_eq_true (by first | (with_reducible assumption) | assumption)
            have q5 : x5_1 < (a0.size : Int) := of_decide_eq_true (by first | (with_reducible assumption) | assumption)
            have hx5 := bt_at a0 x5_1
            replace p5 := eq_true p5
            replace q5 := eq_true q5
            go_wp2
            go_roundg k1
            case measure => have := HK1.out; omega
            case rel => exact ⟨(wrap64 ((wrap64 (x5_1 + 1)) + 1)), (by first | rfl | (simp; done) | (simp [*]; done)), H', ⟨by have := HK1.out; omega⟩, by repeat (first | exact Drawn0.refl _ | apply Drawn0.step)⟩
          · rw [if_neg c6] at H
            have c6b0 : ((bt a0 x5_1) == 92) = false := beq_eq_false_iff_ne.mpr c6
            have c6b1 : ((bt a0 x5_1) != 92) = true := bne_iff_ne.mpr c6
            by_cases c8 : (bt a0 x5_1) = 34
            · rw [if_pos c8] at H
              have c8b0 : ((bt a0 x5_1) == 34) = true := beq_iff_eq.mpr c8
              have c8b1 : ((bt a0 x5_1) != 34) = false := bne_eq_false_iff_eq.mpr c8
              clear c8
              obtain rfl := Option.some.inj H
              have p5 : 0 ≤ (x5_1 : Int) := of_decide_eq_true (by first | (with_reducible assumption) | assumption)
              have q5 : x5_1 < (a0.size : Int) := of_decide_eq_true (by first | (with_reducible assumption) | assumption)
              have hx5 := bt_at a0 x5_1
              replace p5 := eq_true p5
              replace q5 := eq_true q5
              have p7 : 0 ≤ (x5_1 : Int) := of_decide_eq_true (by first | (with_reducible assumption) | assumption)
              have q7 : x5_1 < (a0.size : Int) := of_decide_eq_true (by first | (with_reducible assumption) | assumption)
              have hx7 := bt_at a0 x5_1
              replace p7 := eq_true p7
              replace q7 := eq_true q7
              go_wp2
              go_ret
              exact ⟨by first | rfl | (simp; done) | (simp [*]; done), by repeat (first | exact Drawn0.refl _ | apply Drawn0.step)⟩
            · rw [if_neg c8] at H
              have c8b0 : ((bt a0 x5_1) == 34) = false := beq_eq_false_iff_ne.mpr c8
              have c8b1 : ((bt a0 x5_1) != 34) = true := bne_iff_ne.mpr c8
              have H' := Aside0.mk H
              clear H
              have p5 : 0 ≤ (x5_1 : Int) := of_decide_eq_true (by first | (with_reducible assumption) | assumption)
              have q5 : x5_1 < (a0.size : Int) := of_decide_eq_true (by first | (with_reducible assumption) | assumption)
              have hx5 := bt_at a0 x5_1
              replace p5 := eq_true p5
              replace q5 := eq_true q5
              have p7 : 0 ≤ (x5_1 : Int) := of_decide_eq_true (by first | (with_reducible assumption) | assumption)
              have q7 : x5_1 < (a0.size : Int) := of_decide_eq_true (by first | (with_reducible assumption) | assumption)
              have hx7 := bt_at a0 x5_1
              replace p7 := eq_true p7
              replace q7 := eq_true q7
              go_wp2
              go_roundg k1
              case measure => have := HK1.out; omega
              case rel => exact ⟨(wrap64 (x5_1 + 1)), (by first | rfl | (simp; done) | (simp [*]; done)), H', ⟨by have := HK1.out; omega⟩, by repeat (first | exact Drawn0.refl _ | apply Drawn0.step)⟩
        · rw [if_neg c4] at H
          exact absurd H (by simp)
      · rw [if_neg c3] at H
        have c3b0 : decide (x5_1 < (a0.size : Int)) = false := decide_eq_false c3
        clear c3
        obtain rfl := Option.some.inj H
        go_wp2
        go_ret
        exact ⟨by first | rfl | (simp; done) | (simp [*]; done), by repeat (first | exact Drawn0.refl _ | apply Drawn0.step)⟩
theorem dc_lit_string (W : World) (x : Int) : (convert 62 9 (.slice (some ⟨W.heap.size, 0, none⟩) 1 1)).run Tryd.prog (W.alloc (.cells #[.int .u8 x] 5)) = .ok (.string (strOfNums [x])) (W.alloc (.cells #[.int .u8 x] 5)) := by
  refine own_string (base := W.heap.size) (e' := 5) (n := 1) Tryd.underlying62 Tryd.underlying5 Tryd.underlying9 ⟨rfl, .inr ⟨W.heap.size, 1, #[.int .u8 x], rfl, Nat.le_refl _, heap_alloc_new W _, by simp, by simp [maxLen], by simp, by simp [nums]⟩⟩
theorem dig_str (n : Nat) : strOfNums [48 + (n : Int) % 10] = ⟨#[UInt8.ofNat (48 + n % 10)]⟩ := by
  have h : (48 + (n : Int) % 10).toNat = 48 + n % 10 := by omega
  show (⟨([48 + (n : Int) % 10].map fun n => UInt8.ofNat n.toNat).toArray⟩ : ByteArray) = _
  rw [List.map_singleton, h]
theorem dec_low (n : Nat) (h : n < 10) : Ending.returned (.string (strOfNums [48 + (n : Int) % 10])) = .returned (.string ⟨(Lib.decDigits n).toArray⟩) := by
  rw [dig_str, Lib.decDigits, dif_pos h]
  have : n % 10 = n := by omega
  rw [this]
theorem dec_len (n : Nat) : (Lib.decDigits n).length ≤ n + 1 := by
  induction n using Nat.strongRecOn with
  | _ n ih =>
    rw [Lib.decDigits]
    split
    · simp
    · have := ih (n / 10) (by omega)
      simp only [List.length_append, List.length_singleton]
      omega
theorem dc_cat_mk (a b : List UInt8) : (⟨a.toArray⟩ : ByteArray) ++ ⟨b.toArray⟩ = ⟨(a ++ b).toArray⟩ := by
  apply ByteArray.ext
  simp
theorem dec_high (n : Nat) (h : ¬ n < 10) : Ending.returned (.string ((⟨(Lib.decDigits (n / 10)).toArray⟩ : ByteArray) ++ strOfNums [48 + (n : Int) % 10])) = .returned (.string ⟨(Lib.decDigits n).toArray⟩) := by
  rw [dig_str, Lib.decDigits.eq_def n, dif_neg h, ← dc_cat_mk]
theorem dec_pos (n : Nat) : ∀ (hn : (n : Int) ≤ 9223372036854775807) (w : World), Calls Tryd.prog 54 #[.int .i64 (n : Int)] w fun e w' => e = .returned (.string ⟨(Lib.decDigits n).toArray⟩) ∧ Below w.heap.size w w' := by
  induction n using Nat.strongRecOn with
  | _ n ih =>
  intro hn w
  have h0 : (0 : Int) ≤ (n : Int) := by omega
  have hl := fun (W : World) (x : Int) => dc_lit_string W x
  by_cases h10 : n < 10
  · go_enter Tryd.func54, Tryd.ntmps54
    go_wp2
    go_ret
    exact ⟨dec_low n h10, below_alloc (Below.refl _ _) _⟩
  · have H := Lib.hid (ih (n / 10) (by omega) (by omega))
    have hlen : ¬ 9223372036854775807 < (Lib.decDigits (n / 10)).length + (strOfNums [48 + (n : Int) % 10]).size := by
      rw [dig_str]
      have := dec_len (n / 10)
      show ¬ 9223372036854775807 < _ + 1
      omega
    clear ih
    go_enter Tryd.func54, Tryd.ntmps54
    go_wp2_with fail
    have e1 : ((n : Int) / 10) = ((n / 10 : Nat) : Int) := by omega
    rw [e1]
    clear e1
    refine (H.out _).mono ?_
    rintro e w' ⟨rfl, hb⟩
    have HB := Aside0.mk hb
    clear hb
    go_wp2
    go_ret
    exact ⟨dec_high n h10, below_step (below_alloc (Below.refl _ _) _) HB.out⟩
theorem dc_str_eq {a b : ByteArray} (h : a = b) : Ending.returned (.string a) = .returned (.string b) := by rw [h]
theorem itoa_neg {n : Int} {q r : Nat} (h0 : n < 0) (hq : q = (-n).toNat / 10) (hr : r = (-n).toNat % 10) : Lib.itoa n = 45 :: ((if q = 0 then [] else Lib.decDigits q) ++ Lib.decDigits r) := by
  have hr10 : r < 10 := by omega
  unfold Lib.itoa
  rw [if_pos h0, Lib.decDigits.eq_def n.natAbs, Lib.decDigits.eq_def r, dif_pos hr10]
  have hna : n.natAbs = 10 * q + r := by omega
  by_cases hz : q = 0
  · rw [if_pos hz, dif_pos (by omega), hna]
    simp [hz]
  · rw [if_neg hz, dif_neg (by omega), hna]
    have e1 : (10 * q + r) / 10 = q := by omega
    have e2 : (10 * q + r) % 10 = r := by omega
    rw [e1, e2]
theorem dec_neg (n : Int) (h0 : n < 0) (h1 : -9223372036854775808 ≤ n) (w : World) : Calls Tryd.prog 54 #[.int .i64 n] w fun e w' => e = .returned (.string ⟨(Lib.itoa n).toArray⟩) ∧ Below w.heap.size w w' := by
  obtain ⟨q, hq⟩ : ∃ q : Nat, q = (-n).toNat / 10 := ⟨_, rfl⟩
  obtain ⟨r, hr⟩ : ∃ r : Nat, r = (-n).toNat % 10 := ⟨_, rfl⟩
  have tq : Int.tdiv n 10 = -(q : Int) := by
    have e : n = -(-n) := by omega
    rw [e, Int.neg_tdiv, Int.tdiv_eq_ediv_of_nonneg (by omega)]; omega
  have tr : Int.tmod n 10 = -(r : Int) := by
    have e : n = -(-n) := by omega
    rw [e, Int.neg_tmod, Int.tmod_eq_emod_of_nonneg (by omega)]; omega
  have hr9 : (r : Int) ≤ 9 := by omega
  have hqm : (q : Int) ≤ 922337203685477580 := by omega
  have HE : Aside0 (Lib.itoa n = 45 :: ((if q = 0 then [] else Lib.decDigits q) ++ Lib.decDigits r)) := ⟨itoa_neg h0 hq hr⟩
  have hR := Lib.hid (dec_pos r (by omega))
  have hQ := Lib.hid (dec_pos q (by omega))
  have l1 := dec_len r
  have l2 := dec_len q
  clear hr
  by_cases hz : q = 0
  · have HF : Aside0 (Lib.itoa n = 45 :: Lib.decDigits r) := ⟨by rw [HE.out, if_pos hz]; rfl⟩
    clear HE
    subst hz
    clear hq hQ l2 hqm
    have tq' : Int.tdiv n 10 = 0 := tq
    clear tq
    have hlen : ¬ 9223372036854775807 < ((⟨#[45]⟩ : ByteArray) ++ ⟨#[]⟩).size + (Lib.decDigits r).length := by
      show ¬ 9223372036854775807 < 1 + _
      omega
    clear l1
    go_enter Tryd.func54, Tryd.ntmps54
    go_wp2_with fail
    refine (hR.out _).mono ?_
    rintro e w' ⟨rfl, hb⟩
    have HB := Aside0.mk hb
    clear hb
    go_wp2
    go_ret
    exact ⟨by rw [HF.out]; exact dc_str_eq (by rw [show (⟨#[45]⟩ : ByteArray) ++ ⟨#[]⟩ = ⟨([45] : List UInt8).toArray⟩ from rfl, dc_cat_mk]; rfl), HB.out⟩
  · have HF : Aside0 (Lib.itoa n = 45 :: (Lib.decDigits q ++ Lib.decDigits r)) := ⟨by rw [HE.out, if_neg hz]⟩
    clear HE
    have hq0 : ¬ ((q : Int) = 0) := by omega
    have hlen1 : ¬ 9223372036854775807 < (⟨#[45]⟩ : ByteArray).size + (Lib.decDigits q).length := by
      show ¬ 9223372036854775807 < 1 + _
      omega
    have hlen2 : ¬ 9223372036854775807 < ((⟨#[45]⟩ : ByteArray) ++ ⟨(Lib.decDigits q).toArray⟩).size + (Lib.decDigits r).length := by
      rw [ByteArray.size_append]
      show ¬ 9223372036854775807 < 1 + (Lib.decDigits q).toArray.size + _
      rw [List.size_toArray]
      omega
    have hlen3 : ¬ 9223372036854775807 < 1 + (Lib.decDigits q).length := by omega
    have hlen4 : ¬ 9223372036854775807 < 1 + (Lib.decDigits q).length + (Lib.decDigits r).length := by omega
    clear l1 l2 hq
    go_enter Tryd.func54, Tryd.ntmps54
    go_wp2_with fail
    refine (hQ.out _).mono ?_
    rintro e w1 ⟨rfl, hb1⟩
    have HB1 := Aside0.mk hb1
    clear hb1
    go_wp2_with fail
    refine (hR.out _).mono ?_
    rintro e w' ⟨rfl, hb⟩
    have HB := Aside0.mk hb
    clear hb
    go_wp2
    go_ret
    exact ⟨by rw [HF.out]; exact dc_str_eq (by rw [show (⟨#[45]⟩ : ByteArray) = ⟨([45] : List UInt8).toArray⟩ from rfl, dc_cat_mk, dc_cat_mk]; rfl), below_step HB1.out HB.out⟩
def switchyardref06_Decimal.f (a0 : Int) : Option ByteArray := if -9223372036854775808 ≤ a0 then (if a0 ≤ 9223372036854775807 then some ⟨(Lib.itoa a0).toArray⟩ else none) else none
theorem switchyardref06_Decimal.calls (a0 : Int) (r : ByteArray) (w : World) (h : switchyardref06_Decimal.f a0 = some r) :
    Calls Tryd.prog 54 #[.int .i64 a0] w fun e w' => e = .returned (.string r) ∧ Below w.heap.size w w' := by
  unfold switchyardref06_Decimal.f at h
  by_cases h1 : -9223372036854775808 ≤ a0
  · rw [if_pos h1] at h
    by_cases h2 : a0 ≤ 9223372036854775807
    · rw [if_pos h2] at h
      obtain rfl := Option.some.inj h
      by_cases h0 : a0 < 0
      · exact dec_neg a0 h0 h1 w
      · obtain ⟨n, rfl⟩ := Int.eq_ofNat_of_zero_le (show 0 ≤ a0 by omega)
        have e : Lib.itoa (n : Int) = Lib.decDigits n := by unfold Lib.itoa; rw [if_neg h0]; rfl
        rw [e]
        exact dec_pos n h2 w
    · rw [if_neg h2] at h; cases h
  · rw [if_neg h1] at h; cases h
end Go.Proofs.YtdjcechogbcdnaaDoor.XL
namespace Go.Proofs.YtdjcechogbcdnaaDoor.XL
open Go.RowKit Go.Proofs.YtdjcechogbcdnaaDoorW.PrintWords Go.Proofs.YtdjcechogbcdnaaDoorW.PrintLast Go.Proofs.YtdjcechogbcdnaaDoorW.PrintMore
attribute [local go_sem] max2_int min2_int max_two min_two max_three min_three max_four min_four   -- for this text's walks alone
set_option linter.unusedVariables false
set_option linter.unusedSimpArgs false
mutual
def switchyardref06_Print.j0 : Nat → Bool → Int → Int → ByteArray → List Int → Option (ByteArray)
  | 0, _, _, _, _, _ => none
  | k + 1, x22, x191000, x191001, x191002, x191003 => if x22 = true then (some (⟨#[116, 114, 117, 101]⟩ : ByteArray)) else (if x191000 = 2 then (some (⟨#[102, 97, 108, 115, 101]⟩ : ByteArray)) else (if x191000 = 4 then (if 1 + x191002.size ≤ 9223372036854775807 then (some ((⟨#[39]⟩ : ByteArray) ++ x191002)) else (none)) else (if x191000 = 3 then (if ([] : List Int).length < 140737488355328 then (switchyardref06_Print.l0 k (([] : List Int) ++ [34]) 0 x191000 x191001 x191002 x191003) else (none)) else (if x191000 = 5 then (switchyardref06_Print.l1 k (⟨#[91]⟩ : ByteArray) x191003 (x191003.length : Int) 0) else (some (⟨#[110, 111, 110, 101]⟩ : ByteArray))))))
def switchyardref06_Print.l0 : Nat → List Int → Int → Int → Int → ByteArray → List Int → Option (ByteArray)
  | 0, _, _, _, _, _, _ => none
  | k + 1, x3, x4, x191000, x191001, x191002, x191003 => if x4 < (x191002.size : Int) then (if 0 ≤ x4 then (if (bt x191002 x4) < 32 then (switchyardref06_Print.j2 k x3 x4 (bt x191002 x4) true x191000 x191001 x191002 x191003) else (switchyardref06_Print.j2 k x3 x4 (bt x191002 x4) (decide ((bt x191002 x4) > 126)) x191000 x191001 x191002 x191003)) else (none)) else (if x3.length < 140737488355328 then (some (strOfNums (x3 ++ [34]))) else (none))
def switchyardref06_Print.j2 : Nat → List Int → Int → Int → Bool → Int → Int → ByteArray → List Int → Option (ByteArray)
  | 0, _, _, _, _, _, _, _, _ => none
  | k + 1, x3, x4, x5, x54, x191000, x191001, x191002, x191003 => if x54 = true then (if x3.length < 140737488355328 then ((some (x3 ++ [92] : List Int)).bind fun y198 => (if y198.length < 140737488355328 then ((some (y198 ++ [120] : List Int)).bind fun y201 => (if 0 ≤ ((Int.tdiv x5 16) % 256) then (if ((Int.tdiv x5 16) % 256) < 16 then (if y201.length < 140737488355328 then ((some (y201 ++ [bt (⟨#[48, 49, 50, 51, 52, 53, 54, 55, 56, 57, 97, 98, 99, 100, 101, 102]⟩ : ByteArray) ((Int.tdiv x5 16) % 256)] : List Int)).bind fun y204 => (if 0 ≤ (Int.tmod x5 16) then (if (Int.tmod x5 16) < 16 then (if y204.length < 140737488355328 then (switchyardref06_Print.l0 k (y204 ++ [bt (⟨#[48, 49, 50, 51, 52, 53, 54, 55, 56, 57, 97, 98, 99, 100, 101, 102]⟩ : ByteArray) (Int.tmod x5 16)]) (wrap64 (x4 + 1)) x191000 x191001 x191002 x191003) else (none)) else (none)) else (none))) else (none)) else (none)) else (none))) else (none))) else (none)) else (if x5 = 34 then (if x3.length < 140737488355328 then ((some (x3 ++ [92] : List Int)).bind fun y210 => (if y210.length < 140737488355328 then (switchyardref06_Print.l0 k (y210 ++ [x5]) (wrap64 (x4 + 1)) x191000 x191001 x191002 x191003) else (none))) else (none)) else (if x5 = 92 then (if x3.length < 140737488355328 then ((some (x3 ++ [92] : List Int)).bind fun y216 => (if y216.length < 140737488355328 then (switchyardref06_Print.l0 k (y216 ++ [x5]) (wrap64 (x4 + 1)) x191000 x191001 x191002 x191003) else (none))) else (none)) else (if x3.length < 140737488355328 then (switchyardref06_Print.l0 k (x3 ++ [x5]) (wrap64 (x4 + 1)) x191000 x191001 x191002 x191003) else (none))))
def switchyardref06_Print.l1 : Nat → ByteArray → List Int → Int → Int → Option (ByteArray)
  | 0, _, _, _, _ => none
  | k + 1, x6, x91, x92, x93 => if x93 < x92 then (if 0 ≤ x93 then (if x93 < (x91.length : Int) then (if x93 > 0 then (if x6.size + 2 ≤ 9223372036854775807 then ((switchyardref06_Decimal.f (rd x91 x93)).bind fun t226 => (if (x6 ++ (⟨#[44, 32]⟩ : ByteArray)).size + t226.size ≤ 9223372036854775807 then (switchyardref06_Print.l1 k ((x6 ++ (⟨#[44, 32]⟩ : ByteArray)) ++ t226) x91 x92 (wrap64 (x93 + 1))) else (none))) else (none)) else ((switchyardref06_Decimal.f (rd x91 x93)).bind fun t227 => (if x6.size + t227.size ≤ 9223372036854775807 then (switchyardref06_Print.l1 k (x6 ++ t227) x91 x92 (wrap64 (x93 + 1))) else (none)))) else (none)) else (none)) else (if x6.size + 1 ≤ 9223372036854775807 then (some (x6 ++ (⟨#[93]⟩ : ByteArray))) else (none))
end
def switchyardref06_Print.f (k : Nat) (a0_0 : Int) (a0_1 : Int) (a0_2 : ByteArray) (l0_3 : List Int) : Option (ByteArray) := if a0_0 = 1 then ((switchyardref06_Decimal.f a0_1).bind fun t191 => (some t191)) else (if a0_0 = 2 then (switchyardref06_Print.j0 k (a0_1 == 1) a0_0 a0_1 a0_2 l0_3) else (switchyardref06_Print.j0 k false a0_0 a0_1 a0_2 l0_3))
set_option maxHeartbeats 4000000 in
set_option maxRecDepth 100000 in
theorem switchyardref06_Print.calls (k : Nat) (a0_0 : Int) (a0_1 : Int) (a0_2 : ByteArray) (A0_3 : Option Addr) (c0_3 : Nat) (l0_3 : List Int) (r : ByteArray) (w : World) (hr0_3 : Kd.C (Kd.int .i64) w A0_3 l0_3.length l0_3) (hc0_3 : l0_3.length ≤ c0_3) (h : switchyardref06_Print.f k a0_0 a0_1 a0_2 l0_3 = some r) :
    Calls Tryd.prog 42 #[.agg #[.int .i64 a0_0, .int .i64 a0_1, .string a0_2, .slice A0_3 l0_3.length c0_3]] w fun e w' => e = .returned (.string r) ∧ Below w.heap.size w w' := by
  have hu60 := Tryd.underlying60
  have HR0_3 := Aside0.mk hr0_3
  have HC0_3 := Aside0.mk hc0_3
  clear hr0_3 hc0_3
  have HB := Aside0.mk (Below.refl w.heap.size w)
  have H : (if a0_0 = 1 then ((switchyardref06_Decimal.f a0_1).bind fun t191 => (some t191)) else (if a0_0 = 2 then (switchyardref06_Print.j0 k (a0_1 == 1) a0_0 a0_1 a0_2 l0_3) else (switchyardref06_Print.j0 k false a0_0 a0_1 a0_2 l0_3))) = some r := h
  clear h
  by_cases c2 : a0_0 = 1
  · rw [if_pos c2] at H
    have c2b0 : (a0_0 == 1) = true := beq_iff_eq.mpr c2
    have c2b1 : (a0_0 != 1) = false := bne_eq_false_iff_eq.mpr c2
    clear c2
    replace H := Option.bind_eq_some_iff.mp H
    obtain ⟨t191, A30, H⟩ := H
    replace H : (some t191) = some r := H
    have A3 := Aside0.mk A30
    clear A30
    obtain rfl := Option.some.inj H
    go_enter Tryd.func42, Tryd.ntmps42
    go_wp2_with (first | ((with_reducible refine gate_dst (N := 1) rfl ?_); refine box_event ?hg (N := 1) ?hd (cs := #[.int .i64 a0_0, .int .i64 a0_1, .string a0_2, .slice A0_3 l0_3.length c0_3]) (t := 60) ?hr ?_; (case hd => rfl); (case hg => rfl); (case hr => first | (go_simp; done) | (go_simp; rfl)); intro gb190 hg w4 hbox hb; have n0_ := Aside0.mk (below_step (by repeat (first | (with_reducible first | exact HB.out | apply below_alloc | apply pw_below_drewN | apply below_drew1) | exact HB.out)) hb); have n1_ := Aside0.mk (hbox); have n2_ := Aside0.mk ((by rw [hg]; exact (below_size (by repeat (first | (with_reducible first | exact HB.out | apply below_alloc | apply pw_below_drewN | apply below_drew1) | exact HB.out))) : w.heap.size ≤ gb190)); have n3_ := Aside0.mk ((by rw [hg]; exact (below_size (by repeat (first | (with_reducible first | exact HB.out | apply below_alloc | apply pw_below_drewN | apply below_drew1) | exact HB.out))) : w.heap.size ≤ gb190)); clear HB; have HB := n0_; have BK190 := n1_; have GW190 := n2_; have GE190 := n3_; clear n0_ n1_ n2_ n3_; clear hb hbox hg; have hcz5_0 : w4.cell? ⟨gb190, 0, none⟩ = some (.int .i64 a0_0) := (blk_cell BK190.out 0).trans rfl; have hcz5_1 : w4.cell? ⟨gb190, 1, none⟩ = some (.int .i64 a0_1) := (blk_cell BK190.out 1).trans rfl; have hcz5_2 : w4.cell? ⟨gb190, 2, none⟩ = some (.string a0_2) := (blk_cell BK190.out 2).trans rfl; have hcz5_3 : w4.cell? ⟨gb190, 3, none⟩ = some (.slice A0_3 l0_3.length c0_3) := (blk_cell BK190.out 3).trans rfl; have hfz5_0 := blk_frozen BK190.out 0; have hfz5_1 := blk_frozen BK190.out 1; have hfz5_2 := blk_frozen BK190.out 2; have hfz5_3 := blk_frozen BK190.out 3) | ((with_reducible refine gate_callee (f := 54) rfl ?_); refine goesL_ (some 14) rfl rfl Tryd.func54 (by kernel_rfl) rfl #[.int .i64 a0_1] rfl (by (try simp only [List.map_toArray, List.map_cons, List.map_nil]); first | done | rfl | (simp only [List.length_drop, List.length_take]; rfl)) ?_; (with_reducible refine (switchyardref06_Decimal.calls a0_1 t191 _ A3.out).mono ?_); rintro e w6 ⟨rfl, hb⟩; refine ⟨_, rfl, ?_⟩; have n0_ := Aside0.mk (blk_below (g := gb190) (o := .cells #[.int .i64 a0_0, .int .i64 a0_1, .string a0_2, .slice A0_3 l0_3.length c0_3] 60 (0, 0)) (by (with_reducible repeat (first | refine blk_drewN ?_ _ | refine blk_drew ?_ | refine blk_alloc ?_ _)); exact BK190.out) hb); have n1_ := Aside0.mk (below_step (by repeat (first | (with_reducible first | exact HB.out | apply below_alloc | apply pw_below_drewN | apply below_drew1 | refine below_set ?_ GE190.out) | exact HB.out)) hb); clear BK190; clear HB; have BK190 := n0_; have HB := n1_; clear n0_ n1_; (try clear hb); (try clear hb2); (try clear hk); (try clear hi)))
    go_ret
    exact ⟨by first | rfl | (simp [errW_none, errW_some] <;> rfl) | (simp [*, errW_none, errW_some] <;> rfl), by repeat (first | (with_reducible first | exact HB.out | apply below_alloc | apply pw_below_drewN | apply below_drew1 | refine below_set ?_ GE190.out) | exact HB.out)⟩
  · rw [if_neg c2] at H
    have c2b0 : (a0_0 == 1) = false := beq_eq_false_iff_ne.mpr c2
    have c2b1 : (a0_0 != 1) = true := bne_iff_ne.mpr c2
    have HC7 := Aside0.mk H
    clear H
    go_enter Tryd.func42, Tryd.ntmps42
    go_upto_region 3 with (first | ((with_reducible refine gate_dst (N := 1) rfl ?_); refine box_event ?hg (N := 1) ?hd (cs := #[.int .i64 a0_0, .int .i64 a0_1, .string a0_2, .slice A0_3 l0_3.length c0_3]) (t := 60) ?hr ?_; (case hd => rfl); (case hg => rfl); (case hr => first | (go_simp; done) | (go_simp; rfl)); intro gb190 hg w8 hbox hb; have n0_ := Aside0.mk (below_step (by repeat (first | (with_reducible first | exact HB.out | apply below_alloc | apply pw_below_drewN | apply below_drew1) | exact HB.out)) hb); have n1_ := Aside0.mk (hbox); have n2_ := Aside0.mk ((by rw [hg]; exact (below_size (by repeat (first | (with_reducible first | exact HB.out | apply below_alloc | apply pw_below_drewN | apply below_drew1) | exact HB.out))) : w.heap.size ≤ gb190)); have n3_ := Aside0.mk ((by rw [hg]; exact (below_size (by repeat (first | (with_reducible first | exact HB.out | apply below_alloc | apply pw_below_drewN | apply below_drew1) | exact HB.out))) : w.heap.size ≤ gb190)); clear HB; have HB := n0_; have BK190 := n1_; have GW190 := n2_; have GE190 := n3_; clear n0_ n1_ n2_ n3_; clear hb hbox hg; have hcz9_0 : w8.cell? ⟨gb190, 0, none⟩ = some (.int .i64 a0_0) := (blk_cell BK190.out 0).trans rfl; have hcz9_1 : w8.cell? ⟨gb190, 1, none⟩ = some (.int .i64 a0_1) := (blk_cell BK190.out 1).trans rfl; have hcz9_2 : w8.cell? ⟨gb190, 2, none⟩ = some (.string a0_2) := (blk_cell BK190.out 2).trans rfl; have hcz9_3 : w8.cell? ⟨gb190, 3, none⟩ = some (.slice A0_3 l0_3.length c0_3) := (blk_cell BK190.out 3).trans rfl; have hfz9_0 := blk_frozen BK190.out 0; have hfz9_1 := blk_frozen BK190.out 1; have hfz9_2 := blk_frozen BK190.out 2; have hfz9_3 := blk_frozen BK190.out 3))
    (try simp only [Act.put, List.setIfInBounds_toArray, List.set_cons_zero, List.set_cons_succ])
    go_cut [22] (fun v22 wc => ∃ (kq : Nat) (x22_6 : Bool), v22 = .bool x22_6 ∧ Aside0 (switchyardref06_Print.j0 kq x22_6 a0_0 a0_1 a0_2 l0_3 = some r) ∧ Aside0 (kq ≤ k) ∧ Aside0 (wc.heap[gb190]? = some (.cells #[.int .i64 a0_0, .int .i64 a0_1, .string a0_2, (.slice A0_3 l0_3.length c0_3)] 60 (0, 0))) ∧ Aside0 (Below w.heap.size w wc))
    case first =>
      have H := HC7.out
      clear HC7
      by_cases c10 : a0_0 = 2
      · rw [if_pos c10] at H
        have c10b0 : (a0_0 == 2) = true := beq_iff_eq.mpr c10
        have c10b1 : (a0_0 != 2) = false := bne_eq_false_iff_eq.mpr c10
        clear c10
        (first | rw [c10b0] | (simp only [i64_w, i32_w]; rw [c10b0]) | skip)
        have H' := Aside0.mk H
        clear H
        have hcz11_0 : w8.cell? ⟨gb190, 0, none⟩ = some (.int .i64 a0_0) := (blk_cell BK190.out 0).trans rfl
        have hcz11_1 : w8.cell? ⟨gb190, 1, none⟩ = some (.int .i64 a0_1) := (blk_cell BK190.out 1).trans rfl
        have hcz11_2 : w8.cell? ⟨gb190, 2, none⟩ = some (.string a0_2) := (blk_cell BK190.out 2).trans rfl
        have hcz11_3 : w8.cell? ⟨gb190, 3, none⟩ = some (.slice A0_3 l0_3.length c0_3) := (blk_cell BK190.out 3).trans rfl
        have hfz11_0 := blk_frozen BK190.out 0
        have hfz11_1 := blk_frozen BK190.out 1
        have hfz11_2 := blk_frozen BK190.out 2
        have hfz11_3 := blk_frozen BK190.out 3
        go_wp2
        go_meet
        case rel => exact ⟨_, ((a0_1 == 1)), (by first | rfl | (simp; done) | (simp [*]; done)), H', ⟨by first | omega | exact Nat.le_refl _⟩, ⟨by (with_reducible repeat (first | refine blk_drewN ?_ _ | refine blk_drew ?_ | refine blk_alloc ?_ _)); exact BK190.out⟩, ⟨by repeat (first | (with_reducible first | exact HB.out | apply below_alloc | apply pw_below_drewN | apply below_drew1 | refine below_set ?_ GE190.out) | exact HB.out)⟩⟩
      · rw [if_neg c10] at H
        have c10b0 : (a0_0 == 2) = false := beq_eq_false_iff_ne.mpr c10
        have c10b1 : (a0_0 != 2) = true := bne_iff_ne.mpr c10
        (first | rw [c10b0] | (simp only [i64_w, i32_w]; rw [c10b0]) | skip)
        have H' := Aside0.mk H
        clear H
        have hcz12_0 : w8.cell? ⟨gb190, 0, none⟩ = some (.int .i64 a0_0) := (blk_cell BK190.out 0).trans rfl
        have hcz12_1 : w8.cell? ⟨gb190, 1, none⟩ = some (.int .i64 a0_1) := (blk_cell BK190.out 1).trans rfl
        have hcz12_2 : w8.cell? ⟨gb190, 2, none⟩ = some (.string a0_2) := (blk_cell BK190.out 2).trans rfl
        have hcz12_3 : w8.cell? ⟨gb190, 3, none⟩ = some (.slice A0_3 l0_3.length c0_3) := (blk_cell BK190.out 3).trans rfl
        have hfz12_0 := blk_frozen BK190.out 0
        have hfz12_1 := blk_frozen BK190.out 1
        have hfz12_2 := blk_frozen BK190.out 2
        have hfz12_3 := blk_frozen BK190.out 3
        go_wp2
        go_meet
        case rel => exact ⟨_, (false), (by first | rfl | (simp; done) | (simp [*]; done)), H', ⟨by first | omega | exact Nat.le_refl _⟩, ⟨by (with_reducible repeat (first | refine blk_drewN ?_ _ | refine blk_drew ?_ | refine blk_alloc ?_ _)); exact BK190.out⟩, ⟨by repeat (first | (with_reducible first | exact HB.out | apply below_alloc | apply pw_below_drewN | apply below_drew1 | refine below_set ?_ GE190.out) | exact HB.out)⟩⟩
    case rest =>
      clear HC7
      try clear c1
      try clear c2
      try clear c2b0
      try clear c2b1
      try clear p2
      try clear c4
      try clear c5
      try clear c10
      try clear c10b0
      try clear c10b1
      try clear hcz11_0
      try clear hcz11_1
      try clear hcz11_2
      try clear hcz11_3
      try clear hcz12_0
      try clear hcz12_1
      try clear hcz12_2
      try clear hcz12_3
      try clear hcz5_0
      try clear hcz5_1
      try clear hcz5_2
      try clear hcz5_3
      try clear hcz9_0
      try clear hcz9_1
      try clear hcz9_2
      try clear hcz9_3
      try clear hfz11_0
      try clear hfz11_1
      try clear hfz11_2
      try clear hfz11_3
      try clear hfz12_0
      try clear hfz12_1
      try clear hfz12_2
      try clear hfz12_3
      try clear hfz5_0
      try clear hfz5_1
      try clear hfz5_2
      try clear hfz5_3
      try clear hfz9_0
      try clear hfz9_1
      try clear hfz9_2
      try clear hfz9_3
      obtain ⟨kq, x22_6, rfl, HA, HJ6, BK190, HB⟩ := hcut
      cases kq with
      | zero => exact absurd HA.out (by simp [switchyardref06_Print.j0])
      | succ kj6 =>
        have H := HA.out
        clear HA
        simp only [switchyardref06_Print.j0] at H
        by_cases c13 : x22_6 = true
        · subst c13
          have H1 : (some (⟨#[116, 114, 117, 101]⟩ : ByteArray)) = some r := by rw [if_pos rfl] at H; exact H
          clear H
          have H := H1
          clear H1
          obtain rfl := Option.some.inj H
          go_wp2
          go_ret
          exact ⟨by first | rfl | (simp [errW_none, errW_some] <;> rfl) | (simp [*, errW_none, errW_some] <;> rfl), by repeat (first | (with_reducible first | exact HB.out | apply below_alloc | apply pw_below_drewN | apply below_drew1 | refine below_set ?_ GE190.out) | exact HB.out)⟩
        · replace c13 := Bool.eq_false_iff.mpr c13
          subst c13
          have H1 : (if a0_0 = 2 then (some (⟨#[102, 97, 108, 115, 101]⟩ : ByteArray)) else (if a0_0 = 4 then (if 1 + a0_2.size ≤ 9223372036854775807 then (some ((⟨#[39]⟩ : ByteArray) ++ a0_2)) else (none)) else (if a0_0 = 3 then (if ([] : List Int).length < 140737488355328 then (switchyardref06_Print.l0 kj6 (([] : List Int) ++ [34]) 0 a0_0 a0_1 a0_2 l0_3) else (none)) else (if a0_0 = 5 then (switchyardref06_Print.l1 kj6 (⟨#[91]⟩ : ByteArray) l0_3 (l0_3.length : Int) 0) else (some (⟨#[110, 111, 110, 101]⟩ : ByteArray)))))) = some r := by rw [if_neg (show ¬ (false = true) by decide)] at H; exact H
          clear H
          have H := H1
          clear H1
          by_cases c14 : a0_0 = 2
          · rw [if_pos c14] at H
            have c14b0 : (a0_0 == 2) = true := beq_iff_eq.mpr c14
            have c14b1 : (a0_0 != 2) = false := bne_eq_false_iff_eq.mpr c14
            clear c14
            obtain rfl := Option.some.inj H
            have hcz15_0 : wc.cell? ⟨gb190, 0, none⟩ = some (.int .i64 a0_0) := (blk_cell BK190.out 0).trans rfl
            have hcz15_1 : wc.cell? ⟨gb190, 1, none⟩ = some (.int .i64 a0_1) := (blk_cell BK190.out 1).trans rfl
            have hcz15_2 : wc.cell? ⟨gb190, 2, none⟩ = some (.string a0_2) := (blk_cell BK190.out 2).trans rfl
            have hcz15_3 : wc.cell? ⟨gb190, 3, none⟩ = some (.slice A0_3 l0_3.length c0_3) := (blk_cell BK190.out 3).trans rfl
            have hfz15_0 := blk_frozen BK190.out 0
            have hfz15_1 := blk_frozen BK190.out 1
            have hfz15_2 := blk_frozen BK190.out 2
            have hfz15_3 := blk_frozen BK190.out 3
            go_wp2
            go_ret
            exact ⟨by first | rfl | (simp [errW_none, errW_some] <;> rfl) | (simp [*, errW_none, errW_some] <;> rfl), by repeat (first | (with_reducible first | exact HB.out | apply below_alloc | apply pw_below_drewN | apply below_drew1 | refine below_set ?_ GE190.out) | exact HB.out)⟩
          · rw [if_neg c14] at H
            have c14b0 : (a0_0 == 2) = false := beq_eq_false_iff_ne.mpr c14
            have c14b1 : (a0_0 != 2) = true := bne_iff_ne.mpr c14
            by_cases c16 : a0_0 = 4
            · rw [if_pos c16] at H
              have c16b0 : (a0_0 == 4) = true := beq_iff_eq.mpr c16
              have c16b1 : (a0_0 != 4) = false := bne_eq_false_iff_eq.mpr c16
              clear c16
              by_cases c17 : 1 + a0_2.size ≤ 9223372036854775807
              · rw [if_pos c17] at H
                have c17b0 := eq_true c17
                have c17b1 : decide (1 + a0_2.size ≤ 9223372036854775807) = true := decide_eq_true c17
                try have c17b2 : (9223372036854775807 < 1 + a0_2.size) = False := eq_false (Nat.not_lt.2 c17)
                try (have c17s := c17; simp only [ByteArray.size_append, bsize_mk, List.size_toArray, List.length_cons, List.length_nil, Nat.reduceAdd, Nat.zero_add] at c17s)
                try have c17s2 := eq_false (Nat.not_lt.2 c17s)
                obtain rfl := Option.some.inj H
                have hcz18_0 : wc.cell? ⟨gb190, 0, none⟩ = some (.int .i64 a0_0) := (blk_cell BK190.out 0).trans rfl
                have hcz18_1 : wc.cell? ⟨gb190, 1, none⟩ = some (.int .i64 a0_1) := (blk_cell BK190.out 1).trans rfl
                have hcz18_2 : wc.cell? ⟨gb190, 2, none⟩ = some (.string a0_2) := (blk_cell BK190.out 2).trans rfl
                have hcz18_3 : wc.cell? ⟨gb190, 3, none⟩ = some (.slice A0_3 l0_3.length c0_3) := (blk_cell BK190.out 3).trans rfl
                have hfz18_0 := blk_frozen BK190.out 0
                have hfz18_1 := blk_frozen BK190.out 1
                have hfz18_2 := blk_frozen BK190.out 2
                have hfz18_3 := blk_frozen BK190.out 3
                go_wp2
                go_ret
                exact ⟨by first | rfl | (simp [errW_none, errW_some] <;> rfl) | (simp [*, errW_none, errW_some] <;> rfl), by repeat (first | (with_reducible first | exact HB.out | apply below_alloc | apply pw_below_drewN | apply below_drew1 | refine below_set ?_ GE190.out) | exact HB.out)⟩
              · rw [if_neg c17] at H
                exact absurd H (by simp)
            · rw [if_neg c16] at H
              have c16b0 : (a0_0 == 4) = false := beq_eq_false_iff_ne.mpr c16
              have c16b1 : (a0_0 != 4) = true := bne_iff_ne.mpr c16
              by_cases c19 : a0_0 = 3
              · rw [if_pos c19] at H
                have c19b0 : (a0_0 == 3) = true := beq_iff_eq.mpr c19
                have c19b1 : (a0_0 != 3) = false := bne_eq_false_iff_eq.mpr c19
                clear c19
                by_cases c20 : ([] : List Int).length < 140737488355328
                · rw [if_pos c20] at H
                  have LMc20 := Aside0.mk c20
                  clear c20
                  obtain ⟨y192, hy192⟩ : ∃ y_ : List Int, y_ = (([] : List Int) ++ [34]) := ⟨_, rfl⟩
                  replace H : (switchyardref06_Print.l0 kj6 y192 0 a0_0 a0_1 a0_2 l0_3) = some r := by first | (rw [hy192]; with_reducible exact H) | (have H2_ := (Option.bind_some _ _).symm.trans H; rw [hy192]; with_reducible exact H2_) | (have H2_ := (Option.bind_some _ _).symm.trans H; with_reducible exact H2_) | with_reducible exact H | (rw [hy192]; exact H) | exact H
                  have Ny192 := Aside0.mk hy192
                  clear hy192
                  have H' := Aside0.mk H
                  clear H
                  have hcz21_0 : wc.cell? ⟨gb190, 0, none⟩ = some (.int .i64 a0_0) := (blk_cell BK190.out 0).trans rfl
                  have hcz21_1 : wc.cell? ⟨gb190, 1, none⟩ = some (.int .i64 a0_1) := (blk_cell BK190.out 1).trans rfl
                  have hcz21_2 : wc.cell? ⟨gb190, 2, none⟩ = some (.string a0_2) := (blk_cell BK190.out 2).trans rfl
                  have hcz21_3 : wc.cell? ⟨gb190, 3, none⟩ = some (.slice A0_3 l0_3.length c0_3) := (blk_cell BK190.out 3).trans rfl
                  have hfz21_0 := blk_frozen BK190.out 0
                  have hfz21_1 := blk_frozen BK190.out 1
                  have hfz21_2 := blk_frozen BK190.out 2
                  have hfz21_3 := blk_frozen BK190.out 3
                  go_wp2_with (first | ((with_reducible refine gate_builtin (b := .append) (xs := #[.tmp 35, .tmp 36]) rfl ?_); at_builtin; refine Kd.R_append (Kd.int .u8) (w0 := w) w.heap.size rfl (.tmp 35) (.tmp 36) 62 5 (.int .u8 0) 1 rfl Tryd.underlying62 info5 rfl (by decide) (by omega) (.slice none 0 0) ([] : List Int) 34 [.int .u8 34] (fun _ => True) (fun _ => False) rfl rfl ?aP (fun _ hk => hk.elim) ?aF ?aO ?aB ?aS ?aL ?_; (case aP => exact rfl); (case aB => exact (by repeat (first | (with_reducible first | exact HB.out | apply below_alloc | apply pw_below_drewN | apply below_drew1 | refine below_set ?_ GE190.out) | exact HB.out))); (case aF => exact (fun _ _ => trivial)); (case aO => exact ((Kd.R_nil _ _ _ _ (fun _ => True)))); (case aS => exact (below_size (by repeat (first | (with_reducible first | exact HB.out | apply below_alloc | apply pw_below_drewN | apply below_drew1 | refine below_set ?_ GE190.out) | exact HB.out)))); (case aL => have := LMc20.out; omega); intro v193 w22 ho hb hg hat; rw [← Ny192.out] at ho; have n0_ := Aside0.mk (blk_grown (g := gb190) (o := .cells #[.int .i64 a0_0, .int .i64 a0_1, .string a0_2, .slice A0_3 l0_3.length c0_3] 60 (0, 0)) (by (with_reducible repeat (first | refine blk_drewN ?_ _ | refine blk_drew ?_ | refine blk_alloc ?_ _)); exact BK190.out) hg (by simp [Value.ownBlock])); have n1_ := Aside0.mk (hb); have n2_ := Aside0.mk (ho); clear BK190; clear HB; have BK190 := n0_; have HB := n1_; have HO194 := n2_; clear n0_ n1_ n2_; clear ho hb hg hat))
                  go_loopg [3, 4] kj6 (fun kq v3 v4 w' => ∃ (x3_2 : List Int) (x4_2 : Int), v4 = .int .i64 x4_2 ∧ Aside0 (switchyardref06_Print.l0 kq x3_2 x4_2 a0_0 a0_1 a0_2 l0_3 = some r) ∧ Aside0 (kq ≤ kj6) ∧ Aside0 (Kd.R (Kd.int .u8) 5 w' w.heap.size (fun _ => True) v3 x3_2) ∧ Aside0 (w'.heap[gb190]? = some (.cells #[.int .i64 a0_0, .int .i64 a0_1, .string a0_2, (.slice A0_3 l0_3.length c0_3)] 60 (0, 0))) ∧ Aside0 (Below w.heap.size w w'))
                  case atStart => exact ⟨(y192), (0), (by first | rfl | (simp; done) | (simp [*]; done)), H', ⟨Nat.le_refl _⟩, ⟨by (with_reducible repeat (first | apply Kd.R_alloc | apply Kd.R_drewN | apply Kd.R_drew)); exact HO194.out⟩, ⟨by (with_reducible repeat (first | refine blk_drewN ?_ _ | refine blk_drew ?_ | refine blk_alloc ?_ _)); exact BK190.out⟩, ⟨by repeat (first | (with_reducible first | exact HB.out | apply below_alloc | apply pw_below_drewN | apply below_drew1 | refine below_set ?_ GE190.out) | exact HB.out)⟩⟩
                  case round =>
                    clear H'
                    try clear c1
                    try clear c2
                    try clear c2b0
                    try clear c2b1
                    try clear p2
                    try clear c4
                    try clear c5
                    try clear c10
                    try clear c10b0
                    try clear c10b1
                    try clear c13
                    try clear c14
                    try clear c14b0
                    try clear c14b1
                    try clear c16
                    try clear c16b0
                    try clear c16b1
                    try clear c17
                    try clear c17b0
                    try clear c17b1
                    try clear c17b2
                    try clear c19
                    try clear c19b0
                    try clear c19b1
                    try clear c20
                    try clear hcz11_0
                    try clear hcz11_1
                    try clear hcz11_2
                    try clear hcz11_3
                    try clear hcz12_0
                    try clear hcz12_1
                    try clear hcz12_2
                    try clear hcz12_3
                    try clear hcz15_0
                    try clear hcz15_1
                    try clear hcz15_2
                    try clear hcz15_3
                    try clear hcz18_0
                    try clear hcz18_1
                    try clear hcz18_2
                    try clear hcz18_3
                    try clear hcz21_0
                    try clear hcz21_1
                    try clear hcz21_2
                    try clear hcz21_3
                    try clear hcz5_0
                    try clear hcz5_1
                    try clear hcz5_2
                    try clear hcz5_3
                    try clear hcz9_0
                    try clear hcz9_1
                    try clear hcz9_2
                    try clear hcz9_3
                    try clear hfz11_0
                    try clear hfz11_1
                    try clear hfz11_2
                    try clear hfz11_3
                    try clear hfz12_0
                    try clear hfz12_1
                    try clear hfz12_2
                    try clear hfz12_3
                    try clear hfz15_0
                    try clear hfz15_1
                    try clear hfz15_2
                    try clear hfz15_3
                    try clear hfz18_0
                    try clear hfz18_1
                    try clear hfz18_2
                    try clear hfz18_3
                    try clear hfz21_0
                    try clear hfz21_1
                    try clear hfz21_2
                    try clear hfz21_3
                    try clear hfz5_0
                    try clear hfz5_1
                    try clear hfz5_2
                    try clear hfz5_3
                    try clear hfz9_0
                    try clear hfz9_1
                    try clear hfz9_2
                    try clear hfz9_3
                    try clear p2
                    obtain ⟨x3_2, x4_2, rfl, HA, HK2, HO_3, BK190, HB⟩ := hrel
                    cases gk with
                    | zero => exact absurd HA.out (by simp [switchyardref06_Print.l0])
                    | succ k2 =>
                      have H := HA.out
                      clear HA
                      simp only [switchyardref06_Print.l0] at H
                      by_cases c23 : x4_2 < (a0_2.size : Int)
                      · rw [if_pos c23] at H
                        have c23b0 : decide (x4_2 < (a0_2.size : Int)) = true := decide_eq_true c23
                        clear c23
                        by_cases c24 : 0 ≤ x4_2
                        · rw [if_pos c24] at H
                          have c24b0 : decide (0 ≤ x4_2) = true := decide_eq_true c24
                          clear c24
                          have HC26 := Aside0.mk H
                          clear H
                          have hcz27_0 : wr.cell? ⟨gb190, 0, none⟩ = some (.int .i64 a0_0) := (blk_cell BK190.out 0).trans rfl
                          have hcz27_1 : wr.cell? ⟨gb190, 1, none⟩ = some (.int .i64 a0_1) := (blk_cell BK190.out 1).trans rfl
                          have hcz27_2 : wr.cell? ⟨gb190, 2, none⟩ = some (.string a0_2) := (blk_cell BK190.out 2).trans rfl
                          have hcz27_3 : wr.cell? ⟨gb190, 3, none⟩ = some (.slice A0_3 l0_3.length c0_3) := (blk_cell BK190.out 3).trans rfl
                          have hfz27_0 := blk_frozen BK190.out 0
                          have hfz27_1 := blk_frozen BK190.out 1
                          have hfz27_2 := blk_frozen BK190.out 2
                          have hfz27_3 := blk_frozen BK190.out 3
                          have p25 : 0 ≤ (x4_2 : Int) := of_decide_eq_true (by first | (with_reducible assumption) | assumption)
                          have q25 : x4_2 < (a0_2.size : Int) := of_decide_eq_true (by first | (with_reducible assumption) | assumption)
                          have hx25 := bt_at a0_2 x4_2
                          replace p25 := eq_true p25
                          replace q25 := eq_true q25
                          go_upto_region 16 with (fail)
                          go_cut [54] (fun v54 wc => ∃ (kq : Nat) (x54_25 : Bool), v54 = .bool x54_25 ∧ Aside0 (switchyardref06_Print.j2 kq x3_2 x4_2 (bt a0_2 x4_2) x54_25 a0_0 a0_1 a0_2 l0_3 = some r) ∧ Aside0 (kq ≤ k2) ∧ Aside0 (Kd.R (Kd.int .u8) 5 wc w.heap.size (fun _ => True) u3 x3_2) ∧ Aside0 (wc.heap[gb190]? = some (.cells #[.int .i64 a0_0, .int .i64 a0_1, .string a0_2, (.slice A0_3 l0_3.length c0_3)] 60 (0, 0))) ∧ Aside0 (Below w.heap.size w wc))
                          case first =>
                            have H := HC26.out
                            clear HC26
                            by_cases c28 : (bt a0_2 x4_2) < 32
                            · rw [if_pos c28] at H
                              have c28b0 : decide ((bt a0_2 x4_2) < 32) = true := decide_eq_true c28
                              clear c28
                              (first | rw [c28b0] | (simp only [i64_w, i32_w]; rw [c28b0]) | skip)
                              have H' := Aside0.mk H
                              clear H
                              go_wp2
                              go_meet
                              case rel => exact ⟨_, (true), (by first | rfl | (simp; done) | (simp [*]; done)), H', ⟨by have := HJ6.out; have := HK2.out; first | omega | exact Nat.le_refl _⟩, ⟨by (with_reducible repeat (first | apply Kd.R_alloc | apply Kd.R_drewN | apply Kd.R_drew)); exact HO_3.out⟩, ⟨by (with_reducible repeat (first | refine blk_drewN ?_ _ | refine blk_drew ?_ | refine blk_alloc ?_ _)); exact BK190.out⟩, ⟨by repeat (first | (with_reducible first | exact HB.out | apply below_alloc | apply pw_below_drewN | apply below_drew1 | refine below_set ?_ GE190.out) | exact HB.out)⟩⟩
                            · rw [if_neg c28] at H
                              have c28b0 : decide ((bt a0_2 x4_2) < 32) = false := decide_eq_false c28
                              clear c28
                              (first | rw [c28b0] | (simp only [i64_w, i32_w]; rw [c28b0]) | skip)
                              have H' := Aside0.mk H
                              clear H
                              go_wp2
                              go_meet
                              case rel => exact ⟨_, (decide ((bt a0_2 x4_2) > 126)), (by first | rfl | (simp; done) | (simp [*]; done)), H', ⟨by have := HJ6.out; have := HK2.out; first | omega | exact Nat.le_refl _⟩, ⟨by (with_reducible repeat (first | apply Kd.R_alloc | apply Kd.R_drewN | apply Kd.R_drew)); exact HO_3.out⟩, ⟨by (with_reducible repeat (first | refine blk_drewN ?_ _ | refine blk_drew ?_ | refine blk_alloc ?_ _)); exact BK190.out⟩, ⟨by repeat (first | (with_reducible first | exact HB.out | apply below_alloc | apply pw_below_drewN | apply below_drew1 | refine below_set ?_ GE190.out) | exact HB.out)⟩⟩
                          case rest =>
                            clear HC26
                            try clear c1
                            try clear c2
                            try clear c2b0
                            try clear c2b1
                            try clear p2
                            try clear q2
                            try clear hx2
                            try clear c4
                            try clear c5
                            try clear c10
                            try clear c10b0
                            try clear c10b1
                            try clear c13
                            try clear c14
                            try clear c14b0
                            try clear c14b1
                            try clear c16
                            try clear c16b0
                            try clear c16b1
                            try clear c17
                            try clear c17b0
                            try clear c17b1
                            try clear c17b2
                            try clear c19
                            try clear c19b0
                            try clear c19b1
                            try clear c20
                            try clear c23
                            try clear c23b0
                            try clear c24
                            try clear c24b0
                            try clear p25
                            try clear q25
                            try clear hx25
                            try clear c28
                            try clear c28b0
                            try clear hcz11_0
                            try clear hcz11_1
                            try clear hcz11_2
                            try clear hcz11_3
                            try clear hcz12_0
                            try clear hcz12_1
                            try clear hcz12_2
                            try clear hcz12_3
                            try clear hcz15_0
                            try clear hcz15_1
                            try clear hcz15_2
                            try clear hcz15_3
                            try clear hcz18_0
                            try clear hcz18_1
                            try clear hcz18_2
                            try clear hcz18_3
                            try clear hcz21_0
                            try clear hcz21_1
                            try clear hcz21_2
                            try clear hcz21_3
                            try clear hcz27_0
                            try clear hcz27_1
                            try clear hcz27_2
                            try clear hcz27_3
                            try clear hcz5_0
                            try clear hcz5_1
                            try clear hcz5_2
                            try clear hcz5_3
                            try clear hcz9_0
                            try clear hcz9_1
                            try clear hcz9_2
                            try clear hcz9_3
                            try clear hfz11_0
                            try clear hfz11_1
                            try clear hfz11_2
                            try clear hfz11_3
                            try clear hfz12_0
                            try clear hfz12_1
                            try clear hfz12_2
                            try clear hfz12_3
                            try clear hfz15_0
                            try clear hfz15_1
                            try clear hfz15_2
                            try clear hfz15_3
                            try clear hfz18_0
                            try clear hfz18_1
                            try clear hfz18_2
                            try clear hfz18_3
                            try clear hfz21_0
                            try clear hfz21_1
                            try clear hfz21_2
                            try clear hfz21_3
                            try clear hfz27_0
                            try clear hfz27_1
                            try clear hfz27_2
                            try clear hfz27_3
                            try clear hfz5_0
                            try clear hfz5_1
                            try clear hfz5_2
                            try clear hfz5_3
                            try clear hfz9_0
                            try clear hfz9_1
                            try clear hfz9_2
                            try clear hfz9_3
                            try clear p2
                            try clear p25
                            try clear q25
                            obtain ⟨kq, x54_25, rfl, HA, HJ25, HO_3, BK190, HB⟩ := hcut
                            cases kq with
                            | zero => exact absurd HA.out (by simp [switchyardref06_Print.j2])
                            | succ kj25 =>
                              have H := HA.out
                              clear HA
                              simp only [switchyardref06_Print.j2] at H
                              by_cases c29 : x54_25 = true
                              · subst c29
                                have H1 : (if x3_2.length < 140737488355328 then ((some (x3_2 ++ [92] : List Int)).bind fun y198 => (if y198.length < 140737488355328 then ((some (y198 ++ [120] : List Int)).bind fun y201 => (if 0 ≤ ((Int.tdiv (bt a0_2 x4_2) 16) % 256) then (if ((Int.tdiv (bt a0_2 x4_2) 16) % 256) < 16 then (if y201.length < 140737488355328 then ((some (y201 ++ [bt (⟨#[48, 49, 50, 51, 52, 53, 54, 55, 56, 57, 97, 98, 99, 100, 101, 102]⟩ : ByteArray) ((Int.tdiv (bt a0_2 x4_2) 16) % 256)] : List Int)).bind fun y204 => (if 0 ≤ (Int.tmod (bt a0_2 x4_2) 16) then (if (Int.tmod (bt a0_2 x4_2) 16) < 16 then (if y204.length < 140737488355328 then (switchyardref06_Print.l0 kj25 (y204 ++ [bt (⟨#[48, 49, 50, 51, 52, 53, 54, 55, 56, 57, 97, 98, 99, 100, 101, 102]⟩ : ByteArray) (Int.tmod (bt a0_2 x4_2) 16)]) (wrap64 (x4_2 + 1)) a0_0 a0_1 a0_2 l0_3) else (none)) else (none)) else (none))) else (none)) else (none)) else (none))) else (none))) else (none)) = some r := by rw [if_pos rfl] at H; exact H
                                clear H
                                have H := H1
                                clear H1
                                by_cases c30 : x3_2.length < 140737488355328
                                · rw [if_pos c30] at H
                                  have LMc30 := Aside0.mk c30
                                  clear c30
                                  obtain ⟨y198, hy198⟩ : ∃ y_ : List Int, y_ = (x3_2 ++ [92]) := ⟨_, rfl⟩
                                  replace H : (if y198.length < 140737488355328 then ((some (y198 ++ [120] : List Int)).bind fun y201 => (if 0 ≤ ((Int.tdiv (bt a0_2 x4_2) 16) % 256) then (if ((Int.tdiv (bt a0_2 x4_2) 16) % 256) < 16 then (if y201.length < 140737488355328 then ((some (y201 ++ [bt (⟨#[48, 49, 50, 51, 52, 53, 54, 55, 56, 57, 97, 98, 99, 100, 101, 102]⟩ : ByteArray) ((Int.tdiv (bt a0_2 x4_2) 16) % 256)] : List Int)).bind fun y204 => (if 0 ≤ (Int.tmod (bt a0_2 x4_2) 16) then (if (Int.tmod (bt a0_2 x4_2) 16) < 16 then (if y204.length < 140737488355328 then (switchyardref06_Print.l0 kj25 (y204 ++ [bt (⟨#[48, 49, 50, 51, 52, 53, 54, 55, 56, 57, 97, 98, 99, 100, 101, 102]⟩ : ByteArray) (Int.tmod (bt a0_2 x4_2) 16)]) (wrap64 (x4_2 + 1)) a0_0 a0_1 a0_2 l0_3) else (none)) else (none)) else (none))) else (none)) else (none)) else (none))) else (none)) = some r := by first | (rw [hy198]; with_reducible exact H) | (have H2_ := (Option.bind_some _ _).symm.trans H; rw [hy198]; with_reducible exact H2_) | (have H2_ := (Option.bind_some _ _).symm.trans H; with_reducible exact H2_) | with_reducible exact H | (rw [hy198]; exact H) | exact H
                                  have Ny198 := Aside0.mk hy198
                                  clear hy198
                                  by_cases c31 : y198.length < 140737488355328
                                  · rw [if_pos c31] at H
                                    have LMc31 := Aside0.mk c31
                                    clear c31
                                    obtain ⟨y201, hy201⟩ : ∃ y_ : List Int, y_ = (y198 ++ [120]) := ⟨_, rfl⟩
                                    replace H : (if 0 ≤ ((Int.tdiv (bt a0_2 x4_2) 16) % 256) then (if ((Int.tdiv (bt a0_2 x4_2) 16) % 256) < 16 then (if y201.length < 140737488355328 then ((some (y201 ++ [bt (⟨#[48, 49, 50, 51, 52, 53, 54, 55, 56, 57, 97, 98, 99, 100, 101, 102]⟩ : ByteArray) ((Int.tdiv (bt a0_2 x4_2) 16) % 256)] : List Int)).bind fun y204 => (if 0 ≤ (Int.tmod (bt a0_2 x4_2) 16) then (if (Int.tmod (bt a0_2 x4_2) 16) < 16 then (if y204.length < 140737488355328 then (switchyardref06_Print.l0 kj25 (y204 ++ [bt (⟨#[48, 49, 50, 51, 52, 53, 54, 55, 56, 57, 97, 98, 99, 100, 101, 102]⟩ : ByteArray) (Int.tmod (bt a0_2 x4_2) 16)]) (wrap64 (x4_2 + 1)) a0_0 a0_1 a0_2 l0_3) else (none)) else (none)) else (none))) else (none)) else (none)) else (none)) = some r := by first | (rw [hy201]; with_reducible exact H) | (have H2_ := (Option.bind_some _ _).symm.trans H; rw [hy201]; with_reducible exact H2_) | (have H2_ := (Option.bind_some _ _).symm.trans H; with_reducible exact H2_) | with_reducible exact H | (rw [hy201]; exact H) | exact H
                                    have Ny201 := Aside0.mk hy201
                                    clear hy201
                                    obtain ⟨ji32, hji32⟩ : ∃ j_ : Int, ((Int.tdiv (bt a0_2 x4_2) 16) % 256) = j_ := ⟨_, rfl⟩
                                    replace H : (if 0 ≤ (ji32) then (if (ji32) < 16 then (if y201.length < 140737488355328 then ((some (y201 ++ [bt (⟨#[48, 49, 50, 51, 52, 53, 54, 55, 56, 57, 97, 98, 99, 100, 101, 102]⟩ : ByteArray) (ji32)] : List Int)).bind fun y204 => (if 0 ≤ (Int.tmod (bt a0_2 x4_2) 16) then (if (Int.tmod (bt a0_2 x4_2) 16) < 16 then (if y204.length < 140737488355328 then (switchyardref06_Print.l0 kj25 (y204 ++ [bt (⟨#[48, 49, 50, 51, 52, 53, 54, 55, 56, 57, 97, 98, 99, 100, 101, 102]⟩ : ByteArray) (Int.tmod (bt a0_2 x4_2) 16)]) (wrap64 (x4_2 + 1)) a0_0 a0_1 a0_2 l0_3) else (none)) else (none)) else (none))) else (none)) else (none)) else (none)) = some r := by first | (rw [hji32] at H; exact H) | (simp only [hji32] at H ⊢; exact H)
                                    by_cases c33 : 0 ≤ (ji32)
                                    · rw [if_pos c33] at H
                                      have c33b0 : decide (0 ≤ (ji32)) = true := decide_eq_true c33
                                      clear c33
                                      by_cases c34 : (ji32) < 16
                                      · rw [if_pos c34] at H
                                        have c34b0 : decide ((ji32) < 16) = true := decide_eq_true c34
                                        clear c34
                                        by_cases c36 : y201.length < 140737488355328
                                        · rw [if_pos c36] at H
                                          have LMc36 := Aside0.mk c36
                                          clear c36
                                          obtain ⟨y204, hy204⟩ : ∃ y_ : List Int, y_ = (y201 ++ [bt (⟨#[48, 49, 50, 51, 52, 53, 54, 55, 56, 57, 97, 98, 99, 100, 101, 102]⟩ : ByteArray) (ji32)]) := ⟨_, rfl⟩
                                          replace H : (if 0 ≤ (Int.tmod (bt a0_2 x4_2) 16) then (if (Int.tmod (bt a0_2 x4_2) 16) < 16 then (if y204.length < 140737488355328 then (switchyardref06_Print.l0 kj25 (y204 ++ [bt (⟨#[48, 49, 50, 51, 52, 53, 54, 55, 56, 57, 97, 98, 99, 100, 101, 102]⟩ : ByteArray) (Int.tmod (bt a0_2 x4_2) 16)]) (wrap64 (x4_2 + 1)) a0_0 a0_1 a0_2 l0_3) else (none)) else (none)) else (none)) = some r := by first | (rw [hy204]; with_reducible exact H) | (have H2_ := (Option.bind_some _ _).symm.trans H; rw [hy204]; with_reducible exact H2_) | (have H2_ := (Option.bind_some _ _).symm.trans H; with_reducible exact H2_) | with_reducible exact H | (rw [hy204]; exact H) | exact H
                                          have Ny204 := Aside0.mk hy204
                                          clear hy204
                                          obtain ⟨ji37, hji37⟩ : ∃ j_ : Int, (Int.tmod (bt a0_2 x4_2) 16) = j_ := ⟨_, rfl⟩
                                          replace H : (if 0 ≤ (ji37) then (if (ji37) < 16 then (if y204.length < 140737488355328 then (switchyardref06_Print.l0 kj25 (y204 ++ [bt (⟨#[48, 49, 50, 51, 52, 53, 54, 55, 56, 57, 97, 98, 99, 100, 101, 102]⟩ : ByteArray) (ji37)]) (wrap64 (x4_2 + 1)) a0_0 a0_1 a0_2 l0_3) else (none)) else (none)) else (none)) = some r := by first | (rw [hji37] at H; exact H) | (simp only [hji37] at H ⊢; exact H)
                                          by_cases c38 : 0 ≤ (ji37)
                                          · rw [if_pos c38] at H
                                            have c38b0 : decide (0 ≤ (ji37)) = true := decide_eq_true c38
                                            clear c38
                                            by_cases c39 : (ji37) < 16
                                            · rw [if_pos c39] at H
                                              have c39b0 : decide ((ji37) < 16) = true := decide_eq_true c39
                                              clear c39
                                              by_cases c41 : y204.length < 140737488355328
                                              · rw [if_pos c41] at H
                                                have LMc41 := Aside0.mk c41
                                                clear c41
                                                obtain ⟨y207, hy207⟩ : ∃ y_ : List Int, y_ = (y204 ++ [bt (⟨#[48, 49, 50, 51, 52, 53, 54, 55, 56, 57, 97, 98, 99, 100, 101, 102]⟩ : ByteArray) (ji37)]) := ⟨_, rfl⟩
                                                replace H : (switchyardref06_Print.l0 kj25 y207 (wrap64 (x4_2 + 1)) a0_0 a0_1 a0_2 l0_3) = some r := by first | (rw [hy207]; with_reducible exact H) | (have H2_ := (Option.bind_some _ _).symm.trans H; rw [hy207]; with_reducible exact H2_) | (have H2_ := (Option.bind_some _ _).symm.trans H; with_reducible exact H2_) | with_reducible exact H | (rw [hy207]; exact H) | exact H
                                                have Ny207 := Aside0.mk hy207
                                                clear hy207
                                                have H' := Aside0.mk H
                                                clear H
                                                go_wp2_with (first | ((with_reducible refine gate_builtin (b := .append) (xs := #[.tmp 55, .tmp 56]) rfl ?_); at_builtin; refine Kd.R_append (Kd.int .u8) (w0 := w) w.heap.size rfl (.tmp 55) (.tmp 56) 62 5 (.int .u8 0) 1 rfl Tryd.underlying62 info5 rfl (by decide) (by omega) u3 x3_2 92 [.int .u8 92] (fun _ => True) (fun _ => False) rfl rfl ?aP (fun _ hk => hk.elim) ?aF ?aO ?aB ?aS ?aL ?_; (case aP => exact rfl); (case aB => exact (by repeat (first | (with_reducible first | exact HB.out | apply below_alloc | apply pw_below_drewN | apply below_drew1 | refine below_set ?_ GE190.out) | exact HB.out))); (case aF => exact (fun _ _ => trivial)); (case aO => exact (by (with_reducible repeat (first | apply Kd.R_alloc | apply Kd.R_drewN | apply Kd.R_drew)); exact HO_3.out)); (case aS => exact (below_size (by repeat (first | (with_reducible first | exact HB.out | apply below_alloc | apply pw_below_drewN | apply below_drew1 | refine below_set ?_ GE190.out) | exact HB.out)))); (case aL => have := LMc30.out; omega); intro v199 w42 ho hb hg hat; rw [← Ny198.out] at ho; have n0_ := Aside0.mk (blk_grown (g := gb190) (o := .cells #[.int .i64 a0_0, .int .i64 a0_1, .string a0_2, .slice A0_3 l0_3.length c0_3] 60 (0, 0)) (by (with_reducible repeat (first | refine blk_drewN ?_ _ | refine blk_drew ?_ | refine blk_alloc ?_ _)); exact BK190.out) hg (Kd.R_ne HO_3.out BK190.out (by decide))); have n1_ := Aside0.mk (hb); have n2_ := Aside0.mk (ho); clear BK190; clear HB; clear HO_3; have BK190 := n0_; have HB := n1_; have HO200 := n2_; clear n0_ n1_ n2_; clear ho hb hg hat) | ((with_reducible refine gate_builtin (b := .append) (xs := #[.tmp 58, .tmp 59]) rfl ?_); at_builtin; refine Kd.R_append (Kd.int .u8) (w0 := w) w.heap.size rfl (.tmp 58) (.tmp 59) 62 5 (.int .u8 0) 1 rfl Tryd.underlying62 info5 rfl (by decide) (by omega) v199 y198 120 [.int .u8 120] (fun _ => True) (fun _ => False) rfl rfl ?aP (fun _ hk => hk.elim) ?aF ?aO ?aB ?aS ?aL ?_; (case aP => exact rfl); (case aB => exact (by repeat (first | (with_reducible first | exact HB.out | apply below_alloc | apply pw_below_drewN | apply below_drew1 | refine below_set ?_ GE190.out) | exact HB.out))); (case aF => exact (fun _ _ => trivial)); (case aO => exact (by (with_reducible repeat (first | apply Kd.R_alloc | apply Kd.R_drewN | apply Kd.R_drew)); exact HO200.out)); (case aS => exact (below_size (by repeat (first | (with_reducible first | exact HB.out | apply below_alloc | apply pw_below_drewN | apply below_drew1 | refine below_set ?_ GE190.out) | exact HB.out)))); (case aL => have := LMc31.out; omega); intro v202 w43 ho hb hg hat; rw [← Ny201.out] at ho; have n0_ := Aside0.mk (blk_grown (g := gb190) (o := .cells #[.int .i64 a0_0, .int .i64 a0_1, .string a0_2, .slice A0_3 l0_3.length c0_3] 60 (0, 0)) (by (with_reducible repeat (first | refine blk_drewN ?_ _ | refine blk_drew ?_ | refine blk_alloc ?_ _)); exact BK190.out) hg (Kd.R_ne HO200.out BK190.out (by decide))); have n1_ := Aside0.mk (hb); have n2_ := Aside0.mk (ho); clear BK190; clear HB; clear HO200; have BK190 := n0_; have HB := n1_; have HO203 := n2_; clear n0_ n1_ n2_; clear ho hb hg hat; have p35 : 0 ≤ ((ji32) : Int) := of_decide_eq_true (by first | (with_reducible assumption) | assumption); have q35 : (ji32) < (16 : Int) := of_decide_eq_true (by first | (with_reducible assumption) | assumption); have hx35 := bt_at (⟨#[48, 49, 50, 51, 52, 53, 54, 55, 56, 57, 97, 98, 99, 100, 101, 102]⟩ : ByteArray) (ji32); replace p35 := eq_true p35; replace q35 := eq_true q35) | ((with_reducible refine gate_builtin (b := .append) (xs := #[.tmp 61, .tmp 65]) rfl ?_); at_builtin; refine Kd.R_append (Kd.int .u8) (w0 := w) w.heap.size rfl (.tmp 61) (.tmp 65) 62 5 (.int .u8 0) 1 rfl Tryd.underlying62 info5 rfl (by decide) (by omega) v202 y201 (bt (⟨#[48, 49, 50, 51, 52, 53, 54, 55, 56, 57, 97, 98, 99, 100, 101, 102]⟩ : ByteArray) (ji32)) [.int .u8 (bt (⟨#[48, 49, 50, 51, 52, 53, 54, 55, 56, 57, 97, 98, 99, 100, 101, 102]⟩ : ByteArray) (ji32))] (fun _ => True) (fun _ => False) rfl rfl ?aP (fun _ hk => hk.elim) ?aF ?aO ?aB ?aS ?aL ?_; (case aP => exact rfl); (case aB => exact (by repeat (first | (with_reducible first | exact HB.out | apply below_alloc | apply pw_below_drewN | apply below_drew1 | refine below_set ?_ GE190.out) | exact HB.out))); (case aF => exact (fun _ _ => trivial)); (case aO => exact (by (with_reducible repeat (first | apply Kd.R_alloc | apply Kd.R_drewN | apply Kd.R_drew)); exact HO203.out)); (case aS => exact (below_size (by repeat (first | (with_reducible first | exact HB.out | apply below_alloc | apply pw_below_drewN | apply below_drew1 | refine below_set ?_ GE190.out) | exact HB.out)))); (case aL => have := LMc36.out; omega); intro v205 w44 ho hb hg hat; rw [← Ny204.out] at ho; have n0_ := Aside0.mk (blk_grown (g := gb190) (o := .cells #[.int .i64 a0_0, .int .i64 a0_1, .string a0_2, .slice A0_3 l0_3.length c0_3] 60 (0, 0)) (by (with_reducible repeat (first | refine blk_drewN ?_ _ | refine blk_drew ?_ | refine blk_alloc ?_ _)); exact BK190.out) hg (Kd.R_ne HO203.out BK190.out (by decide))); have n1_ := Aside0.mk (hb); have n2_ := Aside0.mk (ho); clear BK190; clear HB; clear HO203; have BK190 := n0_; have HB := n1_; have HO206 := n2_; clear n0_ n1_ n2_; clear ho hb hg hat; have p40 : 0 ≤ ((ji37) : Int) := of_decide_eq_true (by first | (with_reducible assumption) | assumption); have q40 : (ji37) < (16 : Int) := of_decide_eq_true (by first | (with_reducible assumption) | assumption); have hx40 := bt_at (⟨#[48, 49, 50, 51, 52, 53, 54, 55, 56, 57, 97, 98, 99, 100, 101, 102]⟩ : ByteArray) (ji37); replace p40 := eq_true p40; replace q40 := eq_true q40) | ((with_reducible refine gate_builtin (b := .append) (xs := #[.tmp 79, .tmp 81]) rfl ?_); at_builtin; refine Kd.R_append (Kd.int .u8) (w0 := w) w.heap.size rfl (.tmp 79) (.tmp 81) 62 5 (.int .u8 0) 1 rfl Tryd.underlying62 info5 rfl (by decide) (by omega) v205 y204 (bt (⟨#[48, 49, 50, 51, 52, 53, 54, 55, 56, 57, 97, 98, 99, 100, 101, 102]⟩ : ByteArray) (ji37)) [.int .u8 (bt (⟨#[48, 49, 50, 51, 52, 53, 54, 55, 56, 57, 97, 98, 99, 100, 101, 102]⟩ : ByteArray) (ji37))] (fun _ => True) (fun _ => False) rfl rfl ?aP (fun _ hk => hk.elim) ?aF ?aO ?aB ?aS ?aL ?_; (case aP => exact rfl); (case aB => exact (by repeat (first | (with_reducible first | exact HB.out | apply below_alloc | apply pw_below_drewN | apply below_drew1 | refine below_set ?_ GE190.out) | exact HB.out))); (case aF => exact (fun _ _ => trivial)); (case aO => exact (by (with_reducible repeat (first | apply Kd.R_alloc | apply Kd.R_drewN | apply Kd.R_drew)); exact HO206.out)); (case aS => exact (below_size (by repeat (first | (with_reducible first | exact HB.out | apply below_alloc | apply pw_below_drewN | apply below_drew1 | refine below_set ?_ GE190.out) | exact HB.out)))); (case aL => have := LMc41.out; omega); intro v208 w45 ho hb hg hat; rw [← Ny207.out] at ho; have n0_ := Aside0.mk (blk_grown (g := gb190) (o := .cells #[.int .i64 a0_0, .int .i64 a0_1, .string a0_2, .slice A0_3 l0_3.length c0_3] 60 (0, 0)) (by (with_reducible repeat (first | refine blk_drewN ?_ _ | refine blk_drew ?_ | refine blk_alloc ?_ _)); exact BK190.out) hg (Kd.R_ne HO206.out BK190.out (by decide))); have n1_ := Aside0.mk (hb); have n2_ := Aside0.mk (ho); clear BK190; clear HB; clear HO206; have BK190 := n0_; have HB := n1_; have HO209 := n2_; clear n0_ n1_ n2_; clear ho hb hg hat))
                                                go_roundg kj25
                                                case measure => have := HJ6.out; have := HK2.out; have := HJ25.out; omega
                                                case rel => exact ⟨(y207), (wrap64 (x4_2 + 1)), (by first | rfl | (simp; done) | (simp [*]; done)), H', ⟨by have := HJ6.out; have := HK2.out; have := HJ25.out; omega⟩, ⟨by (with_reducible repeat (first | apply Kd.R_alloc | apply Kd.R_drewN | apply Kd.R_drew)); exact HO209.out⟩, ⟨by (with_reducible repeat (first | refine blk_drewN ?_ _ | refine blk_drew ?_ | refine blk_alloc ?_ _)); exact BK190.out⟩, ⟨by repeat (first | (with_reducible first | exact HB.out | apply below_alloc | apply pw_below_drewN | apply below_drew1 | refine below_set ?_ GE190.out) | exact HB.out)⟩⟩
                                              · rw [if_neg c41] at H
                                                exact absurd H (by simp)
                                            · rw [if_neg c39] at H
                                              exact absurd H (by simp)
                                          · rw [if_neg c38] at H
                                            exact absurd H (by simp)
                                        · rw [if_neg c36] at H
                                          exact absurd H (by simp)
                                      · rw [if_neg c34] at H
                                        exact absurd H (by simp)
                                    · rw [if_neg c33] at H
                                      exact absurd H (by simp)
                                  · rw [if_neg c31] at H
                                    exact absurd H (by simp)
                                · rw [if_neg c30] at H
                                  exact absurd H (by simp)
                              · replace c29 := Bool.eq_false_iff.mpr c29
                                subst c29
                                have H1 : (if (bt a0_2 x4_2) = 34 then (if x3_2.length < 140737488355328 then ((some (x3_2 ++ [92] : List Int)).bind fun y210 => (if y210.length < 140737488355328 then (switchyardref06_Print.l0 kj25 (y210 ++ [(bt a0_2 x4_2)]) (wrap64 (x4_2 + 1)) a0_0 a0_1 a0_2 l0_3) else (none))) else (none)) else (if (bt a0_2 x4_2) = 92 then (if x3_2.length < 140737488355328 then ((some (x3_2 ++ [92] : List Int)).bind fun y216 => (if y216.length < 140737488355328 then (switchyardref06_Print.l0 kj25 (y216 ++ [(bt a0_2 x4_2)]) (wrap64 (x4_2 + 1)) a0_0 a0_1 a0_2 l0_3) else (none))) else (none)) else (if x3_2.length < 140737488355328 then (switchyardref06_Print.l0 kj25 (x3_2 ++ [(bt a0_2 x4_2)]) (wrap64 (x4_2 + 1)) a0_0 a0_1 a0_2 l0_3) else (none)))) = some r := by rw [if_neg (show ¬ (false = true) by decide)] at H; exact H
                                clear H
                                have H := H1
                                clear H1
                                by_cases c46 : (bt a0_2 x4_2) = 34
                                · rw [if_pos c46] at H
                                  have c46b0 : ((bt a0_2 x4_2) == 34) = true := beq_iff_eq.mpr c46
                                  have c46b1 : ((bt a0_2 x4_2) != 34) = false := bne_eq_false_iff_eq.mpr c46
                                  clear c46
                                  by_cases c47 : x3_2.length < 140737488355328
                                  · rw [if_pos c47] at H
                                    have LMc47 := Aside0.mk c47
                                    clear c47
                                    obtain ⟨y210, hy210⟩ : ∃ y_ : List Int, y_ = (x3_2 ++ [92]) := ⟨_, rfl⟩
                                    replace H : (if y210.length < 140737488355328 then (switchyardref06_Print.l0 kj25 (y210 ++ [(bt a0_2 x4_2)]) (wrap64 (x4_2 + 1)) a0_0 a0_1 a0_2 l0_3) else (none)) = some r := by first | (rw [hy210]; with_reducible exact H) | (have H2_ := (Option.bind_some _ _).symm.trans H; rw [hy210]; with_reducible exact H2_) | (have H2_ := (Option.bind_some _ _).symm.trans H; with_reducible exact H2_) | with_reducible exact H | (rw [hy210]; exact H) | exact H
                                    have Ny210 := Aside0.mk hy210
                                    clear hy210
                                    by_cases c48 : y210.length < 140737488355328
                                    · rw [if_pos c48] at H
                                      have LMc48 := Aside0.mk c48
                                      clear c48
                                      obtain ⟨y213, hy213⟩ : ∃ y_ : List Int, y_ = (y210 ++ [(bt a0_2 x4_2)]) := ⟨_, rfl⟩
                                      replace H : (switchyardref06_Print.l0 kj25 y213 (wrap64 (x4_2 + 1)) a0_0 a0_1 a0_2 l0_3) = some r := by first | (rw [hy213]; with_reducible exact H) | (have H2_ := (Option.bind_some _ _).symm.trans H; rw [hy213]; with_reducible exact H2_) | (have H2_ := (Option.bind_some _ _).symm.trans H; with_reducible exact H2_) | with_reducible exact H | (rw [hy213]; exact H) | exact H
                                      have Ny213 := Aside0.mk hy213
                                      clear hy213
                                      have H' := Aside0.mk H
                                      clear H
                                      go_wp2_with (first | ((with_reducible refine gate_builtin (b := .append) (xs := #[.tmp 76, .tmp 77]) rfl ?_); at_builtin; refine Kd.R_append (Kd.int .u8) (w0 := w) w.heap.size rfl (.tmp 76) (.tmp 77) 62 5 (.int .u8 0) 1 rfl Tryd.underlying62 info5 rfl (by decide) (by omega) u3 x3_2 92 [.int .u8 92] (fun _ => True) (fun _ => False) rfl rfl ?aP (fun _ hk => hk.elim) ?aF ?aO ?aB ?aS ?aL ?_; (case aP => exact rfl); (case aB => exact (by repeat (first | (with_reducible first | exact HB.out | apply below_alloc | apply pw_below_drewN | apply below_drew1 | refine below_set ?_ GE190.out) | exact HB.out))); (case aF => exact (fun _ _ => trivial)); (case aO => exact (by (with_reducible repeat (first | apply Kd.R_alloc | apply Kd.R_drewN | apply Kd.R_drew)); exact HO_3.out)); (case aS => exact (below_size (by repeat (first | (with_reducible first | exact HB.out | apply below_alloc | apply pw_below_drewN | apply below_drew1 | refine below_set ?_ GE190.out) | exact HB.out)))); (case aL => have := LMc47.out; omega); intro v211 w49 ho hb hg hat; rw [← Ny210.out] at ho; have n0_ := Aside0.mk (blk_grown (g := gb190) (o := .cells #[.int .i64 a0_0, .int .i64 a0_1, .string a0_2, .slice A0_3 l0_3.length c0_3] 60 (0, 0)) (by (with_reducible repeat (first | refine blk_drewN ?_ _ | refine blk_drew ?_ | refine blk_alloc ?_ _)); exact BK190.out) hg (Kd.R_ne HO_3.out BK190.out (by decide))); have n1_ := Aside0.mk (hb); have n2_ := Aside0.mk (ho); clear BK190; clear HB; clear HO_3; have BK190 := n0_; have HB := n1_; have HO212 := n2_; clear n0_ n1_ n2_; clear ho hb hg hat) | ((with_reducible refine gate_builtin (b := .append) (xs := #[.tmp 79, .tmp 81]) rfl ?_); at_builtin; refine Kd.R_append (Kd.int .u8) (w0 := w) w.heap.size rfl (.tmp 79) (.tmp 81) 62 5 (.int .u8 0) 1 rfl Tryd.underlying62 info5 rfl (by decide) (by omega) v211 y210 (bt a0_2 x4_2) [.int .u8 (bt a0_2 x4_2)] (fun _ => True) (fun _ => False) rfl rfl ?aP (fun _ hk => hk.elim) ?aF ?aO ?aB ?aS ?aL ?_; (case aP => exact rfl); (case aB => exact (by repeat (first | (with_reducible first | exact HB.out | apply below_alloc | apply pw_below_drewN | apply below_drew1 | refine below_set ?_ GE190.out) | exact HB.out))); (case aF => exact (fun _ _ => trivial)); (case aO => exact (by (with_reducible repeat (first | apply Kd.R_alloc | apply Kd.R_drewN | apply Kd.R_drew)); exact HO212.out)); (case aS => exact (below_size (by repeat (first | (with_reducible first | exact HB.out | apply below_alloc | apply pw_below_drewN | apply below_drew1 | refine below_set ?_ GE190.out) | exact HB.out)))); (case aL => have := LMc48.out; omega); intro v214 w50 ho hb hg hat; rw [← Ny213.out] at ho; have n0_ := Aside0.mk (blk_grown (g := gb190) (o := .cells #[.int .i64 a0_0, .int .i64 a0_1, .string a0_2, .slice A0_3 l0_3.length c0_3] 60 (0, 0)) (by (with_reducible repeat (first | refine blk_drewN ?_ _ | refine blk_drew ?_ | refine blk_alloc ?_ _)); exact BK190.out) hg (Kd.R_ne HO212.out BK190.out (by decide))); have n1_ := Aside0.mk (hb); have n2_ := Aside0.mk (ho); clear BK190; clear HB; clear HO212; have BK190 := n0_; have HB := n1_; have HO215 := n2_; clear n0_ n1_ n2_; clear ho hb hg hat))
                                      go_roundg kj25
                                      case measure => have := HJ6.out; have := HK2.out; have := HJ25.out; omega
                                      case rel => exact ⟨(y213), (wrap64 (x4_2 + 1)), (by first | rfl | (simp; done) | (simp [*]; done)), H', ⟨by have := HJ6.out; have := HK2.out; have := HJ25.out; omega⟩, ⟨by (with_reducible repeat (first | apply Kd.R_alloc | apply Kd.R_drewN | apply Kd.R_drew)); exact HO215.out⟩, ⟨by (with_reducible repeat (first | refine blk_drewN ?_ _ | refine blk_drew ?_ | refine blk_alloc ?_ _)); exact BK190.out⟩, ⟨by repeat (first | (with_reducible first | exact HB.out | apply below_alloc | apply pw_below_drewN | apply below_drew1 | refine below_set ?_ GE190.out) | exact HB.out)⟩⟩
                                    · rw [if_neg c48] at H
                                      exact absurd H (by simp)
                                  · rw [if_neg c47] at H
                                    exact absurd H (by simp)
                                · rw [if_neg c46] at H
                                  have c46b0 : ((bt a0_2 x4_2) == 34) = false := beq_eq_false_iff_ne.mpr c46
                                  have c46b1 : ((bt a0_2 x4_2) != 34) = true := bne_iff_ne.mpr c46
                                  by_cases c51 : (bt a0_2 x4_2) = 92
                                  · rw [if_pos c51] at H
                                    have c51b0 : ((bt a0_2 x4_2) == 92) = true := beq_iff_eq.mpr c51
                                    have c51b1 : ((bt a0_2 x4_2) != 92) = false := bne_eq_false_iff_eq.mpr c51
                                    clear c51
                                    by_cases c52 : x3_2.length < 140737488355328
                                    · rw [if_pos c52] at H
                                      have LMc52 := Aside0.mk c52
                                      clear c52
                                      obtain ⟨y216, hy216⟩ : ∃ y_ : List Int, y_ = (x3_2 ++ [92]) := ⟨_, rfl⟩
                                      replace H : (if y216.length < 140737488355328 then (switchyardref06_Print.l0 kj25 (y216 ++ [(bt a0_2 x4_2)]) (wrap64 (x4_2 + 1)) a0_0 a0_1 a0_2 l0_3) else (none)) = some r := by first | (rw [hy216]; with_reducible exact H) | (have H2_ := (Option.bind_some _ _).symm.trans H; rw [hy216]; with_reducible exact H2_) | (have H2_ := (Option.bind_some _ _).symm.trans H; with_reducible exact H2_) | with_reducible exact H | (rw [hy216]; exact H) | exact H
                                      have Ny216 := Aside0.mk hy216
                                      clear hy216
                                      by_cases c53 : y216.length < 140737488355328
                                      · rw [if_pos c53] at H
                                        have LMc53 := Aside0.mk c53
                                        clear c53
                                        obtain ⟨y219, hy219⟩ : ∃ y_ : List Int, y_ = (y216 ++ [(bt a0_2 x4_2)]) := ⟨_, rfl⟩
                                        replace H : (switchyardref06_Print.l0 kj25 y219 (wrap64 (x4_2 + 1)) a0_0 a0_1 a0_2 l0_3) = some r := by first | (rw [hy219]; with_reducible exact H) | (have H2_ := (Option.bind_some _ _).symm.trans H; rw [hy219]; with_reducible exact H2_) | (have H2_ := (Option.bind_some _ _).symm.trans H; with_reducible exact H2_) | with_reducible exact H | (rw [hy219]; exact H) | exact H
                                        have Ny219 := Aside0.mk hy219
                                        clear hy219
                                        have H' := Aside0.mk H
                                        clear H
                                        go_wp2_with (first | ((with_reducible refine gate_builtin (b := .append) (xs := #[.tmp 76, .tmp 77]) rfl ?_); at_builtin; refine Kd.R_append (Kd.int .u8) (w0 := w) w.heap.size rfl (.tmp 76) (.tmp 77) 62 5 (.int .u8 0) 1 rfl Tryd.underlying62 info5 rfl (by decide) (by omega) u3 x3_2 92 [.int .u8 92] (fun _ => True) (fun _ => False) rfl rfl ?aP (fun _ hk => hk.elim) ?aF ?aO ?aB ?aS ?aL ?_; (case aP => exact rfl); (case aB => exact (by repeat (first | (with_reducible first | exact HB.out | apply below_alloc | apply pw_below_drewN | apply below_drew1 | refine below_set ?_ GE190.out) | exact HB.out))); (case aF => exact (fun _ _ => trivial)); (case aO => exact (by (with_reducible repeat (first | apply Kd.R_alloc | apply Kd.R_drewN | apply Kd.R_drew)); exact HO_3.out)); (case aS => exact (below_size (by repeat (first | (with_reducible first | exact HB.out | apply below_alloc | apply pw_below_drewN | apply below_drew1 | refine below_set ?_ GE190.out) | exact HB.out)))); (case aL => have := LMc52.out; omega); intro v217 w54 ho hb hg hat; rw [← Ny216.out] at ho; have n0_ := Aside0.mk (blk_grown (g := gb190) (o := .cells #[.int .i64 a0_0, .int .i64 a0_1, .string a0_2, .slice A0_3 l0_3.length c0_3] 60 (0, 0)) (by (with_reducible repeat (first | refine blk_drewN ?_ _ | refine blk_drew ?_ | refine blk_alloc ?_ _)); exact BK190.out) hg (Kd.R_ne HO_3.out BK190.out (by decide))); have n1_ := Aside0.mk (hb); have n2_ := Aside0.mk (ho); clear BK190; clear HB; clear HO_3; have BK190 := n0_; have HB := n1_; have HO218 := n2_; clear n0_ n1_ n2_; clear ho hb hg hat) | ((with_reducible refine gate_builtin (b := .append) (xs := #[.tmp 79, .tmp 81]) rfl ?_); at_builtin; refine Kd.R_append (Kd.int .u8) (w0 := w) w.heap.size rfl (.tmp 79) (.tmp 81) 62 5 (.int .u8 0) 1 rfl Tryd.underlying62 info5 rfl (by decide) (by omega) v217 y216 (bt a0_2 x4_2) [.int .u8 (bt a0_2 x4_2)] (fun _ => True) (fun _ => False) rfl rfl ?aP (fun _ hk => hk.elim) ?aF ?aO ?aB ?aS ?aL ?_; (case aP => exact rfl); (case aB => exact (by repeat (first | (with_reducible first | exact HB.out | apply below_alloc | apply pw_below_drewN | apply below_drew1 | refine below_set ?_ GE190.out) | exact HB.out))); (case aF => exact (fun _ _ => trivial)); (case aO => exact (by (with_reducible repeat (first | apply Kd.R_alloc | apply Kd.R_drewN | apply Kd.R_drew)); exact HO218.out)); (case aS => exact (below_size (by repeat (first | (with_reducible first | exact HB.out | apply below_alloc | apply pw_below_drewN | apply below_drew1 | refine below_set ?_ GE190.out) | exact HB.out)))); (case aL => have := LMc53.out; omega); intro v220 w55 ho hb hg hat; rw [← Ny219.out] at ho; have n0_ := Aside0.mk (blk_grown (g := gb190) (o := .cells #[.int .i64 a0_0, .int .i64 a0_1, .string a0_2, .slice A0_3 l0_3.length c0_3] 60 (0, 0)) (by (with_reducible repeat (first | refine blk_drewN ?_ _ | refine blk_drew ?_ | refine blk_alloc ?_ _)); exact BK190.out) hg (Kd.R_ne HO218.out BK190.out (by decide))); have n1_ := Aside0.mk (hb); have n2_ := Aside0.mk (ho); clear BK190; clear HB; clear HO218; have BK190 := n0_; have HB := n1_; have HO221 := n2_; clear n0_ n1_ n2_; clear ho hb hg hat))
                                        go_roundg kj25
                                        case measure => have := HJ6.out; have := HK2.out; have := HJ25.out; omega
                                        case rel => exact ⟨(y219), (wrap64 (x4_2 + 1)), (by first | rfl | (simp; done) | (simp [*]; done)), H', ⟨by have := HJ6.out; have := HK2.out; have := HJ25.out; omega⟩, ⟨by (with_reducible repeat (first | apply Kd.R_alloc | apply Kd.R_drewN | apply Kd.R_drew)); exact HO221.out⟩, ⟨by (with_reducible repeat (first | refine blk_drewN ?_ _ | refine blk_drew ?_ | refine blk_alloc ?_ _)); exact BK190.out⟩, ⟨by repeat (first | (with_reducible first | exact HB.out | apply below_alloc | apply pw_below_drewN | apply below_drew1 | refine below_set ?_ GE190.out) | exact HB.out)⟩⟩
                                      · rw [if_neg c53] at H
                                        exact absurd H (by simp)
                                    · rw [if_neg c52] at H
                                      exact absurd H (by simp)
                                  · rw [if_neg c51] at H
                                    have c51b0 : ((bt a0_2 x4_2) == 92) = false := beq_eq_false_iff_ne.mpr c51
                                    have c51b1 : ((bt a0_2 x4_2) != 92) = true := bne_iff_ne.mpr c51
                                    by_cases c56 : x3_2.length < 140737488355328
                                    · rw [if_pos c56] at H
                                      have LMc56 := Aside0.mk c56
                                      clear c56
                                      obtain ⟨y222, hy222⟩ : ∃ y_ : List Int, y_ = (x3_2 ++ [(bt a0_2 x4_2)]) := ⟨_, rfl⟩
                                      replace H : (switchyardref06_Print.l0 kj25 y222 (wrap64 (x4_2 + 1)) a0_0 a0_1 a0_2 l0_3) = some r := by first | (rw [hy222]; with_reducible exact H) | (have H2_ := (Option.bind_some _ _).symm.trans H; rw [hy222]; with_reducible exact H2_) | (have H2_ := (Option.bind_some _ _).symm.trans H; with_reducible exact H2_) | with_reducible exact H | (rw [hy222]; exact H) | exact H
                                      have Ny222 := Aside0.mk hy222
                                      clear hy222
                                      have H' := Aside0.mk H
                                      clear H
                                      go_wp2_with (first | ((with_reducible refine gate_builtin (b := .append) (xs := #[.tmp 79, .tmp 81]) rfl ?_); at_builtin; refine Kd.R_append (Kd.int .u8) (w0 := w) w.heap.size rfl (.tmp 79) (.tmp 81) 62 5 (.int .u8 0) 1 rfl Tryd.underlying62 info5 rfl (by decide) (by omega) u3 x3_2 (bt a0_2 x4_2) [.int .u8 (bt a0_2 x4_2)] (fun _ => True) (fun _ => False) rfl rfl ?aP (fun _ hk => hk.elim) ?aF ?aO ?aB ?aS ?aL ?_; (case aP => exact rfl); (case aB => exact (by repeat (first | (with_reducible first | exact HB.out | apply below_alloc | apply pw_below_drewN | apply below_drew1 | refine below_set ?_ GE190.out) | exact HB.out))); (case aF => exact (fun _ _ => trivial)); (case aO => exact (by (with_reducible repeat (first | apply Kd.R_alloc | apply Kd.R_drewN | apply Kd.R_drew)); exact HO_3.out)); (case aS => exact (below_size (by repeat (first | (with_reducible first | exact HB.out | apply below_alloc | apply pw_below_drewN | apply below_drew1 | refine below_set ?_ GE190.out) | exact HB.out)))); (case aL => have := LMc56.out; omega); intro v223 w57 ho hb hg hat; rw [← Ny222.out] at ho; have n0_ := Aside0.mk (blk_grown (g := gb190) (o := .cells #[.int .i64 a0_0, .int .i64 a0_1, .string a0_2, .slice A0_3 l0_3.length c0_3] 60 (0, 0)) (by (with_reducible repeat (first | refine blk_drewN ?_ _ | refine blk_drew ?_ | refine blk_alloc ?_ _)); exact BK190.out) hg (Kd.R_ne HO_3.out BK190.out (by decide))); have n1_ := Aside0.mk (hb); have n2_ := Aside0.mk (ho); clear BK190; clear HB; clear HO_3; have BK190 := n0_; have HB := n1_; have HO224 := n2_; clear n0_ n1_ n2_; clear ho hb hg hat))
                                      go_roundg kj25
                                      case measure => have := HJ6.out; have := HK2.out; have := HJ25.out; omega
                                      case rel => exact ⟨(y222), (wrap64 (x4_2 + 1)), (by first | rfl | (simp; done) | (simp [*]; done)), H', ⟨by have := HJ6.out; have := HK2.out; have := HJ25.out; omega⟩, ⟨by (with_reducible repeat (first | apply Kd.R_alloc | apply Kd.R_drewN | apply Kd.R_drew)); exact HO224.out⟩, ⟨by (with_reducible repeat (first | refine blk_drewN ?_ _ | refine blk_drew ?_ | refine blk_alloc ?_ _)); exact BK190.out⟩, ⟨by repeat (first | (with_reducible first | exact HB.out | apply below_alloc | apply pw_below_drewN | apply below_drew1 | refine below_set ?_ GE190.out) | exact HB.out)⟩⟩
                                    · rw [if_neg c56] at H
                                      exact absurd H (by simp)
                        · rw [if_neg c24] at H
                          exact absurd H (by simp)
                      · rw [if_neg c23] at H
                        have c23b0 : decide (x4_2 < (a0_2.size : Int)) = false := decide_eq_false c23
                        clear c23
                        by_cases c58 : x3_2.length < 140737488355328
                        · rw [if_pos c58] at H
                          have LMc58 := Aside0.mk c58
                          clear c58
                          obtain ⟨y195, hy195⟩ : ∃ y_ : List Int, y_ = (x3_2 ++ [34]) := ⟨_, rfl⟩
                          replace H : (some (strOfNums y195)) = some r := by first | (rw [hy195]; with_reducible exact H) | (have H2_ := (Option.bind_some _ _).symm.trans H; rw [hy195]; with_reducible exact H2_) | (have H2_ := (Option.bind_some _ _).symm.trans H; with_reducible exact H2_) | with_reducible exact H | (rw [hy195]; exact H) | exact H
                          have Ny195 := Aside0.mk hy195
                          clear hy195
                          obtain rfl := Option.some.inj H
                          have hcz59_0 : wr.cell? ⟨gb190, 0, none⟩ = some (.int .i64 a0_0) := (blk_cell BK190.out 0).trans rfl
                          have hcz59_1 : wr.cell? ⟨gb190, 1, none⟩ = some (.int .i64 a0_1) := (blk_cell BK190.out 1).trans rfl
                          have hcz59_2 : wr.cell? ⟨gb190, 2, none⟩ = some (.string a0_2) := (blk_cell BK190.out 2).trans rfl
                          have hcz59_3 : wr.cell? ⟨gb190, 3, none⟩ = some (.slice A0_3 l0_3.length c0_3) := (blk_cell BK190.out 3).trans rfl
                          have hfz59_0 := blk_frozen BK190.out 0
                          have hfz59_1 := blk_frozen BK190.out 1
                          have hfz59_2 := blk_frozen BK190.out 2
                          have hfz59_3 := blk_frozen BK190.out 3
                          go_wp2_with (first | ((with_reducible refine gate_builtin (b := .append) (xs := #[.tmp 83, .tmp 84]) rfl ?_); at_builtin; refine Kd.R_append (Kd.int .u8) (w0 := w) w.heap.size rfl (.tmp 83) (.tmp 84) 62 5 (.int .u8 0) 1 rfl Tryd.underlying62 info5 rfl (by decide) (by omega) u3 x3_2 34 [.int .u8 34] (fun _ => True) (fun _ => False) rfl rfl ?aP (fun _ hk => hk.elim) ?aF ?aO ?aB ?aS ?aL ?_; (case aP => exact rfl); (case aB => exact (by repeat (first | (with_reducible first | exact HB.out | apply below_alloc | apply pw_below_drewN | apply below_drew1 | refine below_set ?_ GE190.out) | exact HB.out))); (case aF => exact (fun _ _ => trivial)); (case aO => exact (by (with_reducible repeat (first | apply Kd.R_alloc | apply Kd.R_drewN | apply Kd.R_drew)); exact HO_3.out)); (case aS => exact (below_size (by repeat (first | (with_reducible first | exact HB.out | apply below_alloc | apply pw_below_drewN | apply below_drew1 | refine below_set ?_ GE190.out) | exact HB.out)))); (case aL => have := LMc58.out; omega); intro v196 w60 ho hb hg hat; rw [← Ny195.out] at ho; have n0_ := Aside0.mk (blk_grown (g := gb190) (o := .cells #[.int .i64 a0_0, .int .i64 a0_1, .string a0_2, .slice A0_3 l0_3.length c0_3] 60 (0, 0)) (by (with_reducible repeat (first | refine blk_drewN ?_ _ | refine blk_drew ?_ | refine blk_alloc ?_ _)); exact BK190.out) hg (Kd.R_ne HO_3.out BK190.out (by decide))); have n1_ := Aside0.mk (hb); have n2_ := Aside0.mk (ho); clear BK190; clear HB; clear HO_3; have BK190 := n0_; have HB := n1_; have HO197 := n2_; clear n0_ n1_ n2_; clear ho hb hg hat; have hcv61 := own_string (P := Tryd.prog) Tryd.underlying62 Tryd.underlying5 Tryd.underlying9 (Kd.own_of_R HO197.out)))
                          go_ret
                          exact ⟨by first | rfl | (simp [errW_none, errW_some] <;> rfl) | (simp [*, errW_none, errW_some] <;> rfl), by repeat (first | (with_reducible first | exact HB.out | apply below_alloc | apply pw_below_drewN | apply below_drew1 | refine below_set ?_ GE190.out) | exact HB.out)⟩
                        · rw [if_neg c58] at H
                          exact absurd H (by simp)
                · rw [if_neg c20] at H
                  exact absurd H (by simp)
              · rw [if_neg c19] at H
                have c19b0 : (a0_0 == 3) = false := beq_eq_false_iff_ne.mpr c19
                have c19b1 : (a0_0 != 3) = true := bne_iff_ne.mpr c19
                by_cases c62 : a0_0 = 5
                · rw [if_pos c62] at H
                  have c62b0 : (a0_0 == 5) = true := beq_iff_eq.mpr c62
                  have c62b1 : (a0_0 != 5) = false := bne_eq_false_iff_eq.mpr c62
                  clear c62
                  have H' := Aside0.mk H
                  clear H
                  have hcz63_0 : wc.cell? ⟨gb190, 0, none⟩ = some (.int .i64 a0_0) := (blk_cell BK190.out 0).trans rfl
                  have hcz63_1 : wc.cell? ⟨gb190, 1, none⟩ = some (.int .i64 a0_1) := (blk_cell BK190.out 1).trans rfl
                  have hcz63_2 : wc.cell? ⟨gb190, 2, none⟩ = some (.string a0_2) := (blk_cell BK190.out 2).trans rfl
                  have hcz63_3 : wc.cell? ⟨gb190, 3, none⟩ = some (.slice A0_3 l0_3.length c0_3) := (blk_cell BK190.out 3).trans rfl
                  have hfz63_0 := blk_frozen BK190.out 0
                  have hfz63_1 := blk_frozen BK190.out 1
                  have hfz63_2 := blk_frozen BK190.out 2
                  have hfz63_3 := blk_frozen BK190.out 3
                  go_wp2
                  go_loopg [6, 93] kj6 (fun kq v6 v93 w' => ∃ (x6_2 : ByteArray) (x93_2 : Int), v6 = .string x6_2 ∧ v93 = .int .i64 x93_2 ∧ Aside0 (switchyardref06_Print.l1 kq x6_2 l0_3 (l0_3.length : Int) x93_2 = some r) ∧ Aside0 (kq ≤ kj6) ∧ Aside0 (w'.heap[gb190]? = some (.cells #[.int .i64 a0_0, .int .i64 a0_1, .string a0_2, (.slice A0_3 l0_3.length c0_3)] 60 (0, 0))) ∧ Aside0 (Below w.heap.size w w'))
                  case atStart => exact ⟨((⟨#[91]⟩ : ByteArray)), (0), (by first | rfl | (simp; done) | (simp [*]; done)), (by first | rfl | (simp; done) | (simp [*]; done)), H', ⟨Nat.le_refl _⟩, ⟨by (with_reducible repeat (first | refine blk_drewN ?_ _ | refine blk_drew ?_ | refine blk_alloc ?_ _)); exact BK190.out⟩, ⟨by repeat (first | (with_reducible first | exact HB.out | apply below_alloc | apply pw_below_drewN | apply below_drew1 | refine below_set ?_ GE190.out) | exact HB.out)⟩⟩
                  case round =>
                    clear H'
                    try clear c1
                    try clear c2
                    try clear c2b0
                    try clear c2b1
                    try clear p2
                    try clear q2
                    try clear hx2
                    try clear c3
                    try clear p3
                    try clear q3
                    try clear hx3
                    try clear c4
                    try clear p4
                    try clear q4
                    try clear hx4
                    try clear c5
                    try clear c6
                    try clear p6
                    try clear hcv6
                    try clear c10
                    try clear c10b0
                    try clear c10b1
                    try clear c13
                    try clear c14
                    try clear c14b0
                    try clear c14b1
                    try clear c16
                    try clear c16b0
                    try clear c16b1
                    try clear c17
                    try clear c17b0
                    try clear c17b1
                    try clear c17b2
                    try clear c19
                    try clear c19b0
                    try clear c19b1
                    try clear c20
                    try clear c23
                    try clear c23b0
                    try clear c24
                    try clear c24b0
                    try clear p25
                    try clear q25
                    try clear hx25
                    try clear c28
                    try clear c28b0
                    try clear c29
                    try clear c30
                    try clear c31
                    try clear c33
                    try clear c33b0
                    try clear c34
                    try clear c34b0
                    try clear p35
                    try clear q35
                    try clear hx35
                    try clear c36
                    try clear c38
                    try clear c38b0
                    try clear c39
                    try clear c39b0
                    try clear p40
                    try clear q40
                    try clear hx40
                    try clear c41
                    try clear c46
                    try clear c46b0
                    try clear c46b1
                    try clear c47
                    try clear c48
                    try clear c51
                    try clear c51b0
                    try clear c51b1
                    try clear c52
                    try clear c53
                    try clear c56
                    try clear c58
                    try clear hcv61
                    try clear c62
                    try clear c62b0
                    try clear c62b1
                    try clear hcz11_0
                    try clear hcz11_1
                    try clear hcz11_2
                    try clear hcz11_3
                    try clear hcz12_0
                    try clear hcz12_1
                    try clear hcz12_2
                    try clear hcz12_3
                    try clear hcz15_0
                    try clear hcz15_1
                    try clear hcz15_2
                    try clear hcz15_3
                    try clear hcz18_0
                    try clear hcz18_1
                    try clear hcz18_2
                    try clear hcz18_3
                    try clear hcz21_0
                    try clear hcz21_1
                    try clear hcz21_2
                    try clear hcz21_3
                    try clear hcz27_0
                    try clear hcz27_1
                    try clear hcz27_2
                    try clear hcz27_3
                    try clear hcz59_0
                    try clear hcz59_1
                    try clear hcz59_2
                    try clear hcz59_3
                    try clear hcz5_0
                    try clear hcz5_1
                    try clear hcz5_2
                    try clear hcz5_3
                    try clear hcz63_0
                    try clear hcz63_1
                    try clear hcz63_2
                    try clear hcz63_3
                    try clear hcz9_0
                    try clear hcz9_1
                    try clear hcz9_2
                    try clear hcz9_3
                    try clear hfz11_0
                    try clear hfz11_1
                    try clear hfz11_2
                    try clear hfz11_3
                    try clear hfz12_0
                    try clear hfz12_1
                    try clear hfz12_2
                    try clear hfz12_3
                    try clear hfz15_0
                    try clear hfz15_1
                    try clear hfz15_2
                    try clear hfz15_3
                    try clear hfz18_0
                    try clear hfz18_1
                    try clear hfz18_2
                    try clear hfz18_3
                    try clear hfz21_0
                    try clear hfz21_1
                    try clear hfz21_2
                    try clear hfz21_3
                    try clear hfz27_0
                    try clear hfz27_1
                    try clear hfz27_2
                    try clear hfz27_3
                    try clear hfz59_0
                    try clear hfz59_1
                    try clear hfz59_2
                    try clear hfz59_3
                    try clear hfz5_0
                    try clear hfz5_1
                    try clear hfz5_2
                    try clear hfz5_3
                    try clear hfz63_0
                    try clear hfz63_1
                    try clear hfz63_2
                    try clear hfz63_3
                    try clear hfz9_0
                    try clear hfz9_1
                    try clear hfz9_2
                    try clear hfz9_3
                    try clear p2
                    try clear p25
                    try clear p35
                    try clear p40
                    try clear q2
                    try clear q25
                    try clear q35
                    try clear q40
                    obtain ⟨x6_2, x93_2, rfl, rfl, HA, HK2, BK190, HB⟩ := hrel
                    cases gk with
                    | zero => exact absurd HA.out (by simp [switchyardref06_Print.l1])
                    | succ k2 =>
                      have H := HA.out
                      clear HA
                      simp only [switchyardref06_Print.l1] at H
                      by_cases c64 : x93_2 < (l0_3.length : Int)
                      · rw [if_pos c64] at H
                        have c64b0 : decide (x93_2 < (l0_3.length : Int)) = true := decide_eq_true c64
                        clear c64
                        by_cases c65 : 0 ≤ x93_2
                        · rw [if_pos c65] at H
                          have c65b0 : decide (0 ≤ x93_2) = true := decide_eq_true c65
                          clear c65
                          by_cases c66 : x93_2 < (l0_3.length : Int)
                          · rw [if_pos c66] at H
                            have c66b0 : decide (x93_2 < (l0_3.length : Int)) = true := decide_eq_true c66
                            clear c66
                            by_cases c67 : x93_2 > 0
                            · rw [if_pos c67] at H
                              have c67b0 : decide (0 < x93_2) = true := decide_eq_true c67
                              clear c67
                              by_cases c68 : x6_2.size + 2 ≤ 9223372036854775807
                              · rw [if_pos c68] at H
                                have c68b0 := eq_true c68
                                have c68b1 : decide (x6_2.size + 2 ≤ 9223372036854775807) = true := decide_eq_true c68
                                try have c68b2 : (9223372036854775807 < x6_2.size + 2) = False := eq_false (Nat.not_lt.2 c68)
                                try (have c68s := c68; simp only [ByteArray.size_append, bsize_mk, List.size_toArray, List.length_cons, List.length_nil, Nat.reduceAdd, Nat.zero_add] at c68s)
                                try have c68s2 := eq_false (Nat.not_lt.2 c68s)
                                replace H := Option.bind_eq_some_iff.mp H
                                obtain ⟨t226, A690, H⟩ := H
                                replace H : (if (x6_2 ++ (⟨#[44, 32]⟩ : ByteArray)).size + t226.size ≤ 9223372036854775807 then (switchyardref06_Print.l1 k2 ((x6_2 ++ (⟨#[44, 32]⟩ : ByteArray)) ++ t226) l0_3 (l0_3.length : Int) (wrap64 (x93_2 + 1))) else (none)) = some r := H
                                have A69 := Aside0.mk A690
                                clear A690
                                by_cases c70 : (x6_2 ++ (⟨#[44, 32]⟩ : ByteArray)).size + t226.size ≤ 9223372036854775807
                                · rw [if_pos c70] at H
                                  have c70b0 := eq_true c70
                                  have c70b1 : decide ((x6_2 ++ (⟨#[44, 32]⟩ : ByteArray)).size + t226.size ≤ 9223372036854775807) = true := decide_eq_true c70
                                  try have c70b2 : (9223372036854775807 < (x6_2 ++ (⟨#[44, 32]⟩ : ByteArray)).size + t226.size) = False := eq_false (Nat.not_lt.2 c70)
                                  try (have c70s := c70; simp only [ByteArray.size_append, bsize_mk, List.size_toArray, List.length_cons, List.length_nil, Nat.reduceAdd, Nat.zero_add] at c70s)
                                  try have c70s2 := eq_false (Nat.not_lt.2 c70s)
                                  have H' := Aside0.mk H
                                  clear H
                                  have p225 : 0 ≤ (x93_2 : Int) := of_decide_eq_true (by first | (with_reducible assumption) | assumption)
                                  have q225 : x93_2 < (l0_3.length : Int) := of_decide_eq_true (by first | (with_reducible assumption) | assumption)
                                  obtain ⟨ad225, e225, hx225_0⟩ := Kd.at_int HR0_3.out x93_2 p225 q225
                                  cases e225
                                  replace hx225_0 := (HB.out.cell (World.block_lt_of_cell? w _ hx225_0)).trans hx225_0
                                  replace p225 := eq_true p225
                                  replace q225 := eq_true q225
                                  go_wp2_with (first | ((with_reducible refine gate_callee (f := 54) rfl ?_); refine goesL_ (some 104) rfl rfl Tryd.func54 (by kernel_rfl) rfl #[.int .i64 (rd l0_3 x93_2)] rfl (by (try simp only [List.map_toArray, List.map_cons, List.map_nil]); first | done | rfl | (simp only [List.length_drop, List.length_take]; rfl)) ?_; (with_reducible refine (switchyardref06_Decimal.calls (rd l0_3 x93_2) t226 _ A69.out).mono ?_); rintro e w71 ⟨rfl, hb⟩; refine ⟨_, rfl, ?_⟩; have n0_ := Aside0.mk (blk_below (g := gb190) (o := .cells #[.int .i64 a0_0, .int .i64 a0_1, .string a0_2, .slice (some ad225) l0_3.length c0_3] 60 (0, 0)) (by (with_reducible repeat (first | refine blk_drewN ?_ _ | refine blk_drew ?_ | refine blk_alloc ?_ _)); exact BK190.out) hb); have n1_ := Aside0.mk (below_step (by repeat (first | (with_reducible first | exact HB.out | apply below_alloc | apply pw_below_drewN | apply below_drew1 | refine below_set ?_ GE190.out) | exact HB.out)) hb); clear BK190; clear HB; have BK190 := n0_; have HB := n1_; clear n0_ n1_; (try clear hb); (try clear hb2); (try clear hk); (try clear hi)))
                                  go_roundg k2
                                  case measure => have := HJ6.out; have := HK2.out; omega
                                  case rel => exact ⟨((x6_2 ++ (⟨#[44, 32]⟩ : ByteArray)) ++ t226), (wrap64 (x93_2 + 1)), (by first | rfl | (simp; done) | (simp [*]; done)), (by first | rfl | (simp; done) | (simp [*]; done)), H', ⟨by have := HJ6.out; have := HK2.out; omega⟩, ⟨by (with_reducible repeat (first | refine blk_drewN ?_ _ | refine blk_drew ?_ | refine blk_alloc ?_ _)); exact BK190.out⟩, ⟨by repeat (first | (with_reducible first | exact HB.out | apply below_alloc | apply pw_below_drewN | apply below_drew1 | refine below_set ?_ GE190.out) | exact HB.out)⟩⟩
                                · rw [if_neg c70] at H
                                  exact absurd H (by simp)
                              · rw [if_neg c68] at H
                                exact absurd H (by simp)
                            · rw [if_neg c67] at H
                              have c67b0 : decide (0 < x93_2) = false := decide_eq_false c67
                              clear c67
                              replace H := Option.bind_eq_some_iff.mp H
                              obtain ⟨t227, A720, H⟩ := H
                              replace H : (if x6_2.size + t227.size ≤ 9223372036854775807 then (switchyardref06_Print.l1 k2 (x6_2 ++ t227) l0_3 (l0_3.length : Int) (wrap64 (x93_2 + 1))) else (none)) = some r := H
                              have A72 := Aside0.mk A720
                              clear A720
                              by_cases c73 : x6_2.size + t227.size ≤ 9223372036854775807
                              · rw [if_pos c73] at H
                                have c73b0 := eq_true c73
                                have c73b1 : decide (x6_2.size + t227.size ≤ 9223372036854775807) = true := decide_eq_true c73
                                try have c73b2 : (9223372036854775807 < x6_2.size + t227.size) = False := eq_false (Nat.not_lt.2 c73)
                                try (have c73s := c73; simp only [ByteArray.size_append, bsize_mk, List.size_toArray, List.length_cons, List.length_nil, Nat.reduceAdd, Nat.zero_add] at c73s)
                                try have c73s2 := eq_false (Nat.not_lt.2 c73s)
                                have H' := Aside0.mk H
                                clear H
                                have p225 : 0 ≤ (x93_2 : Int) := of_decide_eq_true (by first | (with_reducible assumption) | assumption)
                                have q225 : x93_2 < (l0_3.length : Int) := of_decide_eq_true (by first | (with_reducible assumption) | assumption)
                                obtain ⟨ad225, e225, hx225_0⟩ := Kd.at_int HR0_3.out x93_2 p225 q225
                                cases e225
                                replace hx225_0 := (HB.out.cell (World.block_lt_of_cell? w _ hx225_0)).trans hx225_0
                                replace p225 := eq_true p225
                                replace q225 := eq_true q225
                                go_wp2_with (first | ((with_reducible refine gate_callee (f := 54) rfl ?_); refine goesL_ (some 104) rfl rfl Tryd.func54 (by kernel_rfl) rfl #[.int .i64 (rd l0_3 x93_2)] rfl (by (try simp only [List.map_toArray, List.map_cons, List.map_nil]); first | done | rfl | (simp only [List.length_drop, List.length_take]; rfl)) ?_; (with_reducible refine (switchyardref06_Decimal.calls (rd l0_3 x93_2) t227 _ A72.out).mono ?_); rintro e w74 ⟨rfl, hb⟩; refine ⟨_, rfl, ?_⟩; have n0_ := Aside0.mk (blk_below (g := gb190) (o := .cells #[.int .i64 a0_0, .int .i64 a0_1, .string a0_2, .slice (some ad225) l0_3.length c0_3] 60 (0, 0)) (by (with_reducible repeat (first | refine blk_drewN ?_ _ | refine blk_drew ?_ | refine blk_alloc ?_ _)); exact BK190.out) hb); have n1_ := Aside0.mk (below_step (by repeat (first | (with_reducible first | exact HB.out | apply below_alloc | apply pw_below_drewN | apply below_drew1 | refine below_set ?_ GE190.out) | exact HB.out)) hb); clear BK190; clear HB; have BK190 := n0_; have HB := n1_; clear n0_ n1_; (try clear hb); (try clear hb2); (try clear hk); (try clear hi)))
                                go_roundg k2
                                case measure => have := HJ6.out; have := HK2.out; omega
                                case rel => exact ⟨(x6_2 ++ t227), (wrap64 (x93_2 + 1)), (by first | rfl | (simp; done) | (simp [*]; done)), (by first | rfl | (simp; done) | (simp [*]; done)), H', ⟨by have := HJ6.out; have := HK2.out; omega⟩, ⟨by (with_reducible repeat (first | refine blk_drewN ?_ _ | refine blk_drew ?_ | refine blk_alloc ?_ _)); exact BK190.out⟩, ⟨by repeat (first | (with_reducible first | exact HB.out | apply below_alloc | apply pw_below_drewN | apply below_drew1 | refine below_set ?_ GE190.out) | exact HB.out)⟩⟩
                              · rw [if_neg c73] at H
                                exact absurd H (by simp)
                          · rw [if_neg c66] at H
                            exact absurd H (by simp)
                        · rw [if_neg c65] at H
                          exact absurd H (by simp)
                      · rw [if_neg c64] at H
                        have c64b0 : decide (x93_2 < (l0_3.length : Int)) = false := decide_eq_false c64
                        clear c64
                        by_cases c75 : x6_2.size + 1 ≤ 9223372036854775807
                        · rw [if_pos c75] at H
                          have c75b0 := eq_true c75
                          have c75b1 : decide (x6_2.size + 1 ≤ 9223372036854775807) = true := decide_eq_true c75
                          try have c75b2 : (9223372036854775807 < x6_2.size + 1) = False := eq_false (Nat.not_lt.2 c75)
                          try (have c75s := c75; simp only [ByteArray.size_append, bsize_mk, List.size_toArray, List.length_cons, List.length_nil, Nat.reduceAdd, Nat.zero_add] at c75s)
                          try have c75s2 := eq_false (Nat.not_lt.2 c75s)
                          obtain rfl := Option.some.inj H
                          go_wp2
                          go_ret
                          exact ⟨by first | rfl | (simp [errW_none, errW_some] <;> rfl) | (simp [*, errW_none, errW_some] <;> rfl), by repeat (first | (with_reducible first | exact HB.out | apply below_alloc | apply pw_below_drewN | apply below_drew1 | refine below_set ?_ GE190.out) | exact HB.out)⟩
                        · rw [if_neg c75] at H
                          exact absurd H (by simp)
                · rw [if_neg c62] at H
                  have c62b0 : (a0_0 == 5) = false := beq_eq_false_iff_ne.mpr c62
                  have c62b1 : (a0_0 != 5) = true := bne_iff_ne.mpr c62
                  obtain rfl := Option.some.inj H
                  have hcz76_0 : wc.cell? ⟨gb190, 0, none⟩ = some (.int .i64 a0_0) := (blk_cell BK190.out 0).trans rfl
                  have hcz76_1 : wc.cell? ⟨gb190, 1, none⟩ = some (.int .i64 a0_1) := (blk_cell BK190.out 1).trans rfl
                  have hcz76_2 : wc.cell? ⟨gb190, 2, none⟩ = some (.string a0_2) := (blk_cell BK190.out 2).trans rfl
                  have hcz76_3 : wc.cell? ⟨gb190, 3, none⟩ = some (.slice A0_3 l0_3.length c0_3) := (blk_cell BK190.out 3).trans rfl
                  have hfz76_0 := blk_frozen BK190.out 0
                  have hfz76_1 := blk_frozen BK190.out 1
                  have hfz76_2 := blk_frozen BK190.out 2
                  have hfz76_3 := blk_frozen BK190.out 3
                  go_wp2
                  go_ret
                  exact ⟨by first | rfl | (simp [errW_none, errW_some] <;> rfl) | (simp [*, errW_none, errW_some] <;> rfl), by repeat (first | (with_reducible first | exact HB.out | apply below_alloc | apply pw_below_drewN | apply below_drew1 | refine below_set ?_ GE190.out) | exact HB.out)⟩
end Go.Proofs.YtdjcechogbcdnaaDoor.XL
