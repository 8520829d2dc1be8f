/- Texts of this claim, merged: Shelf, WrdF, LexP, LexF, LexA, LexB, LexC, LexD, LexE, WrdA, WrdC, WrdD, WrdE, WrdG, LexG, LexH, LexI, LexJ, LexK, LexL, LexM, LexN, LexO, LexR, LexS, LexT, LexU. -/
import Derived.Shelf.Strings.OnBuilder
import Derived.Shelf.Small.Strs
import Derived.Shelf.Small.Wraps
import Derived.Shelf.LaysM
import Derived.Shelf.Strconv.Itoa4
import Derived.Shelf.Strings.Prefix
import Derived.Shelf.Strings.Replace
import Derived.Shelf.Strings.SplitShaped
import Derived.Test.YtbgomheagkcmaaaDoorProg
import Derived.Lib.ItoaLen
import Derived.Lib.IndexAny
import Derived.Lib.IndexLaws
import Derived.Lib.CutLaws
import Derived.Lib.Bytes2
import Derived.Test.YtbgomheagkcmaaaDoorMB
/- Contracts of functions of Go's library, laid at this dump by the kit's tool (lay-shelf, lay-plain): the facts of the dump's own, and one application each. -/
namespace Go.Proofs
open Go.Shelf
def Tryd.lays156_ren : Go.Shelf.Ren := ⟨fun | 156 => 32 | 165 => 61 | 166 => 51 | 169 => 52 | 240 => 69 | 241 => 73 | 276 => 81 | 277 => 83 | n => n, fun | 31 => 49 | 9 => 9 | 3 => 3 | 4 => 4 | 0 => 0 | 20 => 20 | 72 => 63 | 76 => 67 | 70 => 61 | 37 => 43 | 75 => 65 | 127 => 89 | 164 => 97 | 5 => 5 | 80 => 70 | n => n, fun | n => n⟩
theorem Tryd.lays156 : Go.Proofs.Lays.n156 Tryd.prog Tryd.lays156_ren := {
  mixed := by kernel_rfl
  f156 := Tryd.func32.trans (congrArg some (by kernel_rfl))
  f165 := Tryd.func61.trans (congrArg some (by kernel_rfl))
  f166 := Tryd.func51.trans (congrArg some (by kernel_rfl))
  f169 := Tryd.func52.trans (congrArg some (by kernel_rfl))
  f240 := Tryd.func69.trans (congrArg some (by kernel_rfl))
  f241 := Tryd.func73.trans (congrArg some (by kernel_rfl))
  f276 := Tryd.func81.trans (congrArg some (by kernel_rfl))
  f277 := Tryd.func83.trans (congrArg some (by kernel_rfl))
  t0 := Tryd.underlying0
  a0 := Tryd.isAgg0
  z0 := Tryd.sizeOf0
  v0 := Tryd.zeroValue0
  t3 := Tryd.underlying3
  a3 := Tryd.isAgg3
  z3 := Tryd.sizeOf3
  v3 := Tryd.zeroValue3
  t4 := Tryd.underlying4
  a4 := Tryd.isAgg4
  z4 := Tryd.sizeOf4
  v4 := Tryd.zeroValue4
  t9 := Tryd.underlying9
  a9 := Tryd.isAgg9
  z9 := Tryd.sizeOf9
  v9 := Tryd.zeroValue9
  t20 := Tryd.underlying20
  a20 := Tryd.isAgg20
  z20 := Tryd.sizeOf20
  v20 := Tryd.zeroValue20
  t31 := Tryd.underlying49
  a31 := Tryd.isAgg49
  z31 := Tryd.sizeOf49
  v31 := Tryd.zeroValue49
  t37 := Tryd.underlying43
  a37 := Tryd.isAgg43
  z37 := Tryd.sizeOf43
  v37 := Tryd.zeroValue43
  t70 := Tryd.underlying61
  a70 := Tryd.isAgg61
  z70 := Tryd.sizeOf61
  v70 := Tryd.zeroValue61
  t72 := Tryd.underlying63
  a72 := Tryd.isAgg63
  z72 := Tryd.sizeOf63
  v72 := Tryd.zeroValue63
  t75 := Tryd.underlying65
  a75 := Tryd.isAgg65
  z75 := Tryd.sizeOf65
  v75 := Tryd.zeroValue65
  t76 := Tryd.underlying67
  a76 := Tryd.isAgg67
  z76 := Tryd.sizeOf67
  v76 := Tryd.zeroValue67
  t127 := Tryd.underlying89
  a127 := Tryd.isAgg89
  z127 := Tryd.sizeOf89
  v127 := Tryd.zeroValue89
  t164 := Tryd.underlying97
  a164 := Tryd.isAgg97
  z164 := Tryd.sizeOf97
  v164 := Tryd.zeroValue97 }
theorem Tryd.Builder_Extra_156 : Builder.Extra Tryd.prog Tryd.lays156_ren := {
  sizeBuilder := by kernel_rfl
  liesBuilder := by kernel_rfl
  t5 := Tryd.underlying5
  a5 := Tryd.isAgg5
  z5 := Tryd.sizeOf5
  v5 := Tryd.zeroValue5
  infoByte := by kernel_rfl
  cellsByte := by kernel_rfl
  sizeByte := by kernel_rfl
  neB5 := by decide }
open Go.RowKit in
theorem Tryd.strings_Join_none (a : Option Addr) (c : Nat) (sep : ByteArray) (w : World) :
    Calls Tryd.prog 32 #[.slice a 0 c, .string sep] w fun e w' => e = .returned (.string ⟨#[]⟩) ∧ w' = w := Any.strings_Join_none Tryd.lays156 Tryd.Builder_Extra_156 a c sep w
open Go.RowKit in
theorem Tryd.strings_Join (bk o c : Nat) (xs : List ByteArray) (sep : ByteArray) (w : World) (hcells : ∀ (j : Nat) x, xs[j]? = some x → w.cell? ⟨bk, o + j, none⟩ = some (.string x)) (hbk : bk < w.heap.size) (hN : xs.length ≤ 140737488355328) (hcap : xs.length ≤ c) (hlen : (Lib.join (xs.map (·.data.toList)) sep.data.toList).length ≤ 140737488355328) :
    Calls Tryd.prog 32 #[.slice (some ⟨bk, o, none⟩) xs.length c, .string sep] w fun e w' => e = .returned (.string ⟨(Lib.join (xs.map (·.data.toList)) sep.data.toList).toArray⟩) ∧ Below w.heap.size w w' := Any.strings_Join Tryd.lays156 Tryd.Builder_Extra_156 bk o c xs sep w hcells hbk hN hcap hlen
def Tryd.lays137_ren : Go.Shelf.Ren := ⟨fun | 137 => 62 | 217 => 74 | 266 => 84 | n => n, fun | 9 => 9 | 5 => 5 | 3 => 3 | n => n, fun | n => n⟩
theorem Tryd.lays137 : Go.Proofs.Lays.n137 Tryd.prog Tryd.lays137_ren := {
  mixed := by kernel_rfl
  f137 := Tryd.func62.trans (congrArg some (by kernel_rfl))
  f217 := Tryd.func74.trans (congrArg some (by kernel_rfl))
  f266 := Tryd.func84.trans (congrArg some (by kernel_rfl))
  t3 := Tryd.underlying3
  a3 := Tryd.isAgg3
  z3 := Tryd.sizeOf3
  v3 := Tryd.zeroValue3
  t5 := Tryd.underlying5
  a5 := Tryd.isAgg5
  z5 := Tryd.sizeOf5
  v5 := Tryd.zeroValue5
  t9 := Tryd.underlying9
  a9 := Tryd.isAgg9
  z9 := Tryd.sizeOf9
  v9 := Tryd.zeroValue9 }
open Go.RowKit in
theorem Tryd.strings_IndexByte (s : ByteArray) (c : Int) (w : World) :
    Calls Tryd.prog 62 #[.string s, .int .u8 c] w fun e w' => e = .returned (.int .i64 (Lib.indexByte s.data.toList c.toNat.toUInt8)) ∧ w' = w := Any.strings_IndexByte Tryd.lays137 s c w
def Tryd.lays103_ren : Go.Shelf.Ren := ⟨fun | 103 => 71 | 210 => 82 | 206 => 70 | n => n, fun | 9 => 9 | 4 => 4 | 24 => 33 | 3 => 3 | n => n, fun | n => n⟩
theorem Tryd.lays103 : Go.Proofs.Lays.n103 Tryd.prog Tryd.lays103_ren := {
  mixed := by kernel_rfl
  f103 := Tryd.func71.trans (congrArg some (by kernel_rfl))
  f206 := Tryd.func70.trans (congrArg some (by kernel_rfl))
  f210 := Tryd.func82.trans (congrArg some (by kernel_rfl))
  t3 := Tryd.underlying3
  a3 := Tryd.isAgg3
  z3 := Tryd.sizeOf3
  v3 := Tryd.zeroValue3
  t4 := Tryd.underlying4
  a4 := Tryd.isAgg4
  z4 := Tryd.sizeOf4
  v4 := Tryd.zeroValue4
  t9 := Tryd.underlying9
  a9 := Tryd.isAgg9
  z9 := Tryd.sizeOf9
  v9 := Tryd.zeroValue9
  t24 := Tryd.underlying33
  a24 := Tryd.isAgg33
  z24 := Tryd.sizeOf33
  v24 := Tryd.zeroValue33 }
open Go.RowKit in
theorem Tryd.strings_CutPrefix (s p : ByteArray) (w : World) :
    Calls Tryd.prog 71 #[.string s, .string p] w fun e w' => e = .returned (.tuple #[.string ⟨(Lib.trimPrefix s.data.toList p.data.toList).toArray⟩, .bool (Lib.hasPrefix s.data.toList p.data.toList)]) ∧ w' = w := Any.strings_CutPrefix Tryd.lays103 s p w
def Tryd.laysM173_ren : Go.Shelf.Ren := ⟨fun | 173 => 65 | 246 => 78 | 283 => 89 | 284 => 90 | 285 => 91 | 286 => 92 | 129 => 98 | 317 => 97 | 318 => 99 | 319 => 100 | 320 => 101 | 337 => 105 | 338 => 106 | n => n, fun | 2 => 2 | 3 => 3 | 9 => 9 | 4 => 4 | 171 => 102 | 0 => 0 | 53 => 81 | 37 => 43 | 5 => 5 | 173 => 105 | 212 => 118 | 51 => 110 | 20 => 20 | 213 => 119 | 46 => 69 | 232 => 138 | 233 => 139 | n => n, fun | 17 => 5 | 18 => 6 | 19 => 7 | n => n⟩
theorem Tryd.laysM173 : Go.Proofs.LaysM.n173 Tryd.prog Tryd.laysM173_ren := {
  mixed := by kernel_rfl
  f129 := Tryd.func98.trans (congrArg some (by kernel_rfl))
  f173 := Tryd.func65.trans (congrArg some (by kernel_rfl))
  f246 := Tryd.func78.trans (congrArg some (by kernel_rfl))
  f283 := Tryd.func89.trans (congrArg some (by kernel_rfl))
  f284 := Tryd.func90.trans (congrArg some (by kernel_rfl))
  f285 := Tryd.func91.trans (congrArg some (by kernel_rfl))
  f286 := Tryd.func92.trans (congrArg some (by kernel_rfl))
  f317 := Tryd.func97.trans (congrArg some (by kernel_rfl))
  f318 := Tryd.func99.trans (congrArg some (by kernel_rfl))
  f319 := Tryd.func100.trans (congrArg some (by kernel_rfl))
  f320 := Tryd.func101.trans (congrArg some (by kernel_rfl))
  f337 := Tryd.func105.trans (congrArg some (by kernel_rfl))
  f338 := Tryd.func106.trans (congrArg some (by kernel_rfl))
  t0 := Tryd.underlying0
  a0 := Tryd.isAgg0
  z0 := Tryd.sizeOf0
  v0 := Tryd.zeroValue0
  t2 := Tryd.underlying2
  a2 := Tryd.isAgg2
  z2 := Tryd.sizeOf2
  v2 := Tryd.zeroValue2
  t3 := Tryd.underlying3
  a3 := Tryd.isAgg3
  z3 := Tryd.sizeOf3
  v3 := Tryd.zeroValue3
  t4 := Tryd.underlying4
  a4 := Tryd.isAgg4
  z4 := Tryd.sizeOf4
  v4 := Tryd.zeroValue4
  t5 := Tryd.underlying5
  a5 := Tryd.isAgg5
  z5 := Tryd.sizeOf5
  v5 := Tryd.zeroValue5
  t9 := Tryd.underlying9
  a9 := Tryd.isAgg9
  z9 := Tryd.sizeOf9
  v9 := Tryd.zeroValue9
  t20 := Tryd.underlying20
  a20 := Tryd.isAgg20
  z20 := Tryd.sizeOf20
  v20 := Tryd.zeroValue20
  t37 := Tryd.underlying43
  a37 := Tryd.isAgg43
  z37 := Tryd.sizeOf43
  v37 := Tryd.zeroValue43
  t46 := Tryd.underlying69
  a46 := Tryd.isAgg69
  z46 := Tryd.sizeOf69
  v46 := Tryd.zeroValue69
  t51 := Tryd.underlying110
  a51 := Tryd.isAgg110
  z51 := Tryd.sizeOf110
  v51 := Tryd.zeroValue110
  t53 := Tryd.underlying81
  a53 := Tryd.isAgg81
  z53 := Tryd.sizeOf81
  v53 := Tryd.zeroValue81
  t171 := Tryd.underlying102
  a171 := Tryd.isAgg102
  z171 := Tryd.sizeOf102
  v171 := Tryd.zeroValue102
  t173 := Tryd.underlying105
  a173 := Tryd.isAgg105
  z173 := Tryd.sizeOf105
  v173 := Tryd.zeroValue105
  t212 := Tryd.underlying118
  a212 := Tryd.isAgg118
  z212 := Tryd.sizeOf118
  v212 := Tryd.zeroValue118
  t213 := Tryd.underlying119
  a213 := Tryd.isAgg119
  z213 := Tryd.sizeOf119
  t232 := Tryd.underlying138
  a232 := Tryd.isAgg138
  z232 := Tryd.sizeOf138
  v232 := Tryd.zeroValue138
  t233 := Tryd.underlying139
  a233 := Tryd.isAgg139
  z233 := Tryd.sizeOf139
  v233 := Tryd.zeroValue139
  g17 := by kernel_rfl
  g18 := by kernel_rfl
  g19 := by kernel_rfl
  i0 := by kernel_rfl
  i2 := by kernel_rfl
  i3 := by kernel_rfl
  i4 := by kernel_rfl
  i5 := by kernel_rfl
  i9 := by kernel_rfl
  i20 := by kernel_rfl
  i37 := by kernel_rfl
  i46 := by kernel_rfl
  i51 := by kernel_rfl
  i53 := by kernel_rfl
  i171 := by kernel_rfl
  i173 := by kernel_rfl
  i212 := by kernel_rfl
  i232 := by kernel_rfl
  i233 := by kernel_rfl
  m17 := by kernel_rfl
  m18 := by kernel_rfl
  m19 := by kernel_rfl }
open Go.RowKit Go.Sort Go.Lib in
theorem Tryd.strconv_FormatInt_10 (n : Int) (h0 : -9223372036854775808 ≤ n) (h1 : n ≤ 9223372036854775807) (w : World) (htab : Lib.TabIs Tryd.prog w "internal/strconv.uint64pow10" .u64 Lib.pow10Tab) :
    Calls Tryd.prog 65 #[.int .i64 n, .int .i64 10] w fun e w' => e = .returned (.string ⟨(Lib.itoa n).toArray⟩) ∧ ∃ k os, w' = grow (w.drewN k) os := Any.strconv_FormatInt_10 Tryd.laysM173 n h0 h1 w htab
def Tryd.lays99_ren : Go.Shelf.Ren := ⟨fun | 99 => 54 | 206 => 70 | n => n, fun | 9 => 9 | 4 => 4 | 3 => 3 | n => n, fun | n => n⟩
theorem Tryd.lays99 : Go.Proofs.Lays.n99 Tryd.prog Tryd.lays99_ren := {
  mixed := by kernel_rfl
  f99 := Tryd.func54.trans (congrArg some (by kernel_rfl))
  f206 := Tryd.func70.trans (congrArg some (by kernel_rfl))
  t3 := Tryd.underlying3
  a3 := Tryd.isAgg3
  z3 := Tryd.sizeOf3
  v3 := Tryd.zeroValue3
  t4 := Tryd.underlying4
  a4 := Tryd.isAgg4
  z4 := Tryd.sizeOf4
  v4 := Tryd.zeroValue4
  t9 := Tryd.underlying9
  a9 := Tryd.isAgg9
  z9 := Tryd.sizeOf9
  v9 := Tryd.zeroValue9 }
open Go.RowKit Go.Lib in
theorem Tryd.strings_HasPrefix (s p : ByteArray) (w : World) :
    Calls Tryd.prog 54 #[.string s, .string p] w fun e w' => e = .returned (.bool (Lib.hasPrefix s.data.toList p.data.toList)) ∧ w' = w := Any.strings_HasPrefix Tryd.lays99 s p w
def Tryd.lays154_ren : Go.Shelf.Ren := ⟨fun | 154 => 64 | 138 => 75 | 165 => 61 | 143 => 76 | 166 => 51 | 197 => 77 | 169 => 52 | 195 => 85 | 218 => 86 | 240 => 69 | 241 => 73 | 219 => 87 | 260 => 88 | 276 => 81 | 277 => 83 | 217 => 74 | 225 => 94 | 224 => 95 | 267 => 96 | 266 => 84 | 314 => 104 | n => n, fun | 9 => 9 | 3 => 3 | 4 => 4 | 72 => 63 | 0 => 0 | 76 => 67 | 105 => 92 | 21 => 21 | 5 => 5 | 70 => 61 | 20 => 20 | 37 => 43 | 75 => 65 | 127 => 89 | 164 => 97 | 46 => 69 | 119 => 94 | 139 => 116 | 138 => 115 | 146 => 133 | 51 => 110 | 80 => 70 | n => n, fun | 1 => 2 | 3 => 3 | 4 => 4 | n => n⟩
theorem Tryd.lays154 : Go.Proofs.Lays.n154 Tryd.prog Tryd.lays154_ren := {
  mixed := by kernel_rfl
  f138 := Tryd.func75.trans (congrArg some (by kernel_rfl))
  f143 := Tryd.func76.trans (congrArg some (by kernel_rfl))
  f154 := Tryd.func64.trans (congrArg some (by kernel_rfl))
  f165 := Tryd.func61.trans (congrArg some (by kernel_rfl))
  f166 := Tryd.func51.trans (congrArg some (by kernel_rfl))
  f169 := Tryd.func52.trans (congrArg some (by kernel_rfl))
  f195 := Tryd.func85.trans (congrArg some (by kernel_rfl))
  f197 := Tryd.func77.trans (congrArg some (by kernel_rfl))
  f217 := Tryd.func74.trans (congrArg some (by kernel_rfl))
  f218 := Tryd.func86.trans (congrArg some (by kernel_rfl))
  f219 := Tryd.func87.trans (congrArg some (by kernel_rfl))
  f224 := Tryd.func95.trans (congrArg some (by kernel_rfl))
  f225 := Tryd.func94.trans (congrArg some (by kernel_rfl))
  f240 := Tryd.func69.trans (congrArg some (by kernel_rfl))
  f241 := Tryd.func73.trans (congrArg some (by kernel_rfl))
  f260 := Tryd.func88.trans (congrArg some (by kernel_rfl))
  f266 := Tryd.func84.trans (congrArg some (by kernel_rfl))
  f267 := Tryd.func96.trans (congrArg some (by kernel_rfl))
  f276 := Tryd.func81.trans (congrArg some (by kernel_rfl))
  f277 := Tryd.func83.trans (congrArg some (by kernel_rfl))
  f314 := Tryd.func104.trans (congrArg some (by kernel_rfl))
  t0 := Tryd.underlying0
  a0 := Tryd.isAgg0
  z0 := Tryd.sizeOf0
  v0 := Tryd.zeroValue0
  t3 := Tryd.underlying3
  a3 := Tryd.isAgg3
  z3 := Tryd.sizeOf3
  v3 := Tryd.zeroValue3
  t4 := Tryd.underlying4
  a4 := Tryd.isAgg4
  z4 := Tryd.sizeOf4
  v4 := Tryd.zeroValue4
  t5 := Tryd.underlying5
  a5 := Tryd.isAgg5
  z5 := Tryd.sizeOf5
  v5 := Tryd.zeroValue5
  t9 := Tryd.underlying9
  a9 := Tryd.isAgg9
  z9 := Tryd.sizeOf9
  v9 := Tryd.zeroValue9
  t20 := Tryd.underlying20
  a20 := Tryd.isAgg20
  z20 := Tryd.sizeOf20
  v20 := Tryd.zeroValue20
  t21 := Tryd.underlying21
  a21 := Tryd.isAgg21
  z21 := Tryd.sizeOf21
  v21 := Tryd.zeroValue21
  t37 := Tryd.underlying43
  a37 := Tryd.isAgg43
  z37 := Tryd.sizeOf43
  v37 := Tryd.zeroValue43
  t46 := Tryd.underlying69
  a46 := Tryd.isAgg69
  z46 := Tryd.sizeOf69
  v46 := Tryd.zeroValue69
  t51 := Tryd.underlying110
  a51 := Tryd.isAgg110
  z51 := Tryd.sizeOf110
  v51 := Tryd.zeroValue110
  t70 := Tryd.underlying61
  a70 := Tryd.isAgg61
  z70 := Tryd.sizeOf61
  v70 := Tryd.zeroValue61
  t72 := Tryd.underlying63
  a72 := Tryd.isAgg63
  z72 := Tryd.sizeOf63
  v72 := Tryd.zeroValue63
  t75 := Tryd.underlying65
  a75 := Tryd.isAgg65
  z75 := Tryd.sizeOf65
  v75 := Tryd.zeroValue65
  t76 := Tryd.underlying67
  a76 := Tryd.isAgg67
  z76 := Tryd.sizeOf67
  v76 := Tryd.zeroValue67
  t105 := Tryd.underlying92
  a105 := Tryd.isAgg92
  z105 := Tryd.sizeOf92
  v105 := Tryd.zeroValue92
  t119 := Tryd.underlying94
  a119 := Tryd.isAgg94
  z119 := Tryd.sizeOf94
  t127 := Tryd.underlying89
  a127 := Tryd.isAgg89
  z127 := Tryd.sizeOf89
  v127 := Tryd.zeroValue89
  t138 := Tryd.underlying115
  a138 := Tryd.isAgg115
  z138 := Tryd.sizeOf115
  v138 := Tryd.zeroValue115
  t139 := Tryd.underlying116
  a139 := Tryd.isAgg116
  z139 := Tryd.sizeOf116
  v139 := Tryd.zeroValue116
  t146 := Tryd.underlying133
  a146 := Tryd.isAgg133
  z146 := Tryd.sizeOf133
  v146 := Tryd.zeroValue133
  t164 := Tryd.underlying97
  a164 := Tryd.isAgg97
  z164 := Tryd.sizeOf97
  v164 := Tryd.zeroValue97
  g1 := by kernel_rfl
  g3 := by kernel_rfl
  g4 := by kernel_rfl }
theorem Tryd.Builder_Extra_154 : Builder.Extra Tryd.prog Tryd.lays154_ren := {
  sizeBuilder := by kernel_rfl
  liesBuilder := by kernel_rfl
  t5 := Tryd.underlying5
  a5 := Tryd.isAgg5
  z5 := Tryd.sizeOf5
  v5 := Tryd.zeroValue5
  infoByte := by kernel_rfl
  cellsByte := by kernel_rfl
  sizeByte := by kernel_rfl
  neB5 := by decide }
open Go.RowKit Go.Lib in
theorem Tryd.strings_Replace (s old new : ByteArray) (n : Int) (m : Int) (w : World) (hs : s.size < 4294967281) (hm : w.cell? ⟨2, 0, none⟩ = some (.int .i64 m)) (h1 : 1 ≤ old.size) (hlen : s.size + Lib.countB s old * new.size ≤ 140737488355328) :
    Calls Tryd.prog 64 #[.string s, .string old, .string new, .int .i64 n] w fun e w' =>
      e = .returned (.string ⟨(Lib.replace s.data.toList old.data.toList new.data.toList n).toArray⟩) ∧ Below w.heap.size w w' := Any.strings_Replace Tryd.lays154 Tryd.Builder_Extra_154 s old new n m w hs hm h1 hlen
def Tryd.laysM157_ren : Go.Shelf.Ren := ⟨fun | 157 => 68 | 229 => 79 | 199 => 80 | 261 => 93 | 311 => 102 | 312 => 103 | n => n, fun | 9 => 9 | 31 => 49 | 3 => 3 | 5 => 5 | 4 => 4 | 119 => 94 | 0 => 0 | 40 => 96 | 152 => 107 | 21 => 21 | 154 => 109 | 51 => 110 | 141 => 112 | 196 => 125 | 193 => 122 | 198 => 128 | 49 => 126 | 194 => 123 | 201 => 131 | 226 => 136 | 46 => 69 | 227 => 137 | n => n, fun | 0 => 0 | 6 => 1 | n => n⟩
theorem Tryd.laysM157 : Go.Proofs.LaysM.n157 Tryd.prog Tryd.laysM157_ren := {
  mixed := by kernel_rfl
  f157 := Tryd.func68.trans (congrArg some (by kernel_rfl))
  f199 := Tryd.func80.trans (congrArg some (by kernel_rfl))
  f229 := Tryd.func79.trans (congrArg some (by kernel_rfl))
  f261 := Tryd.func93.trans (congrArg some (by kernel_rfl))
  f311 := Tryd.func102.trans (congrArg some (by kernel_rfl))
  f312 := Tryd.func103.trans (congrArg some (by kernel_rfl))
  t0 := Tryd.underlying0
  a0 := Tryd.isAgg0
  z0 := Tryd.sizeOf0
  v0 := Tryd.zeroValue0
  t3 := Tryd.underlying3
  a3 := Tryd.isAgg3
  z3 := Tryd.sizeOf3
  v3 := Tryd.zeroValue3
  t4 := Tryd.underlying4
  a4 := Tryd.isAgg4
  z4 := Tryd.sizeOf4
  v4 := Tryd.zeroValue4
  t5 := Tryd.underlying5
  a5 := Tryd.isAgg5
  z5 := Tryd.sizeOf5
  v5 := Tryd.zeroValue5
  t9 := Tryd.underlying9
  a9 := Tryd.isAgg9
  z9 := Tryd.sizeOf9
  v9 := Tryd.zeroValue9
  t21 := Tryd.underlying21
  a21 := Tryd.isAgg21
  z21 := Tryd.sizeOf21
  v21 := Tryd.zeroValue21
  t31 := Tryd.underlying49
  a31 := Tryd.isAgg49
  z31 := Tryd.sizeOf49
  v31 := Tryd.zeroValue49
  t40 := Tryd.underlying96
  a40 := Tryd.isAgg96
  z40 := Tryd.sizeOf96
  v40 := Tryd.zeroValue96
  t46 := Tryd.underlying69
  a46 := Tryd.isAgg69
  z46 := Tryd.sizeOf69
  v46 := Tryd.zeroValue69
  t49 := Tryd.underlying126
  a49 := Tryd.isAgg126
  z49 := Tryd.sizeOf126
  v49 := Tryd.zeroValue126
  t51 := Tryd.underlying110
  a51 := Tryd.isAgg110
  z51 := Tryd.sizeOf110
  v51 := Tryd.zeroValue110
  t119 := Tryd.underlying94
  a119 := Tryd.isAgg94
  z119 := Tryd.sizeOf94
  t141 := Tryd.underlying112
  a141 := Tryd.isAgg112
  z141 := Tryd.sizeOf112
  v141 := Tryd.zeroValue112
  t152 := Tryd.underlying107
  a152 := Tryd.isAgg107
  z152 := Tryd.sizeOf107
  v152 := Tryd.zeroValue107
  t154 := Tryd.underlying109
  a154 := Tryd.isAgg109
  z154 := Tryd.sizeOf109
  v154 := Tryd.zeroValue109
  t193 := Tryd.underlying122
  a193 := Tryd.isAgg122
  z193 := Tryd.sizeOf122
  v193 := Tryd.zeroValue122
  t194 := Tryd.underlying123
  a194 := Tryd.isAgg123
  z194 := Tryd.sizeOf123
  v194 := Tryd.zeroValue123
  t196 := Tryd.underlying125
  a196 := Tryd.isAgg125
  z196 := Tryd.sizeOf125
  v196 := Tryd.zeroValue125
  t198 := Tryd.underlying128
  a198 := Tryd.isAgg128
  z198 := Tryd.sizeOf128
  v198 := Tryd.zeroValue128
  t201 := Tryd.underlying131
  a201 := Tryd.isAgg131
  z201 := Tryd.sizeOf131
  v201 := Tryd.zeroValue131
  t226 := Tryd.underlying136
  a226 := Tryd.isAgg136
  z226 := Tryd.sizeOf136
  v226 := Tryd.zeroValue136
  t227 := Tryd.underlying137
  a227 := Tryd.isAgg137
  z227 := Tryd.sizeOf137
  v227 := Tryd.zeroValue137
  g0 := by kernel_rfl
  g6 := by kernel_rfl
  i0 := by kernel_rfl
  i3 := by kernel_rfl
  i4 := by kernel_rfl
  i5 := by kernel_rfl
  i9 := by kernel_rfl
  i21 := by kernel_rfl
  i31 := by kernel_rfl
  i40 := by kernel_rfl
  i46 := by kernel_rfl
  i49 := by kernel_rfl
  i51 := by kernel_rfl
  i141 := by kernel_rfl
  i152 := by kernel_rfl
  i154 := by kernel_rfl
  i193 := by kernel_rfl
  i194 := by kernel_rfl
  i196 := by kernel_rfl
  i198 := by kernel_rfl
  i201 := by kernel_rfl
  i226 := by kernel_rfl
  i227 := by kernel_rfl
  m0 := by kernel_rfl
  m6 := by kernel_rfl }
open Go.RowKit Go.Lib in
theorem Tryd.strings_Fields_laid (s : ByteArray) (w : World) (hs : s.size < 4294967281) (hascii : ∀ (j : Nat) b, s.data.toList[j]? = some b → b.toNat < 128) (htab : Lib.TabIs Tryd.prog w "strings.asciiSpace" .u8 Lib.asciiSpaceTab) :
    Calls Tryd.prog 68 #[.string s] w fun e w' =>
      e = .returned (.slice (some ⟨w.heap.size, 0, none⟩) (Lib.fields s.data.toList).length (Lib.fields s.data.toList).length) ∧ w' = w.alloc (.cells ((Lib.fields s.data.toList).map fun l => Value.string ⟨l.toArray⟩).toArray 9) := Any.strings_Fields_laid Tryd.laysM157 s w hs hascii htab
end Go.Proofs
/- Numbers: facts on the program's types; contracts of three functions of the library; the plain functions. -/
namespace Go.Proofs.YtbgomheagkcmaaaDoor
open Go.Sx Go.RowKit

theorem es_u8s : elemSize Tryd.prog 43 = some 1 := by kernel_rfl
theorem et_u8s : (elemTy Tryd.prog 43).isSome = true := by kernel_rfl
theorem ety_u8s : elemTy Tryd.prog 43 = some 5 := by kernel_rfl
theorem tc_i64 : tyCells Tryd.prog 2 = some (false, 1) := by kernel_rfl
theorem zl_i64 : zeroLen Tryd.prog 2 = some 1 := by kernel_rfl
theorem zl_u8 : zeroLen Tryd.prog 5 = some 1 := by kernel_rfl
theorem by_u8s : bytesOf Tryd.prog 43 = some 1 := by kernel_rfl
theorem zs_i64 : (zeroOf Tryd.prog 2).isSome = true := by kernel_rfl
theorem zs_u8 : (zeroOf Tryd.prog 5).isSome = true := by kernel_rfl
theorem zo_i64 : zeroOf Tryd.prog 2 = some [.int .i64 0] := by kernel_rfl
theorem ui64 : Tryd.prog.underlying 2 = some (.int .i64) := by kernel_rfl
theorem uint : Tryd.prog.underlying 3 = some (.int .i64) := by kernel_rfl
theorem uu64 : Tryd.prog.underlying 81 = some (.int .u64) := by kernel_rfl
theorem uu8 : Tryd.prog.underlying 5 = some (.int .u8) := by kernel_rfl
theorem ui32 : Tryd.prog.underlying 21 = some (.int .i32) := by kernel_rfl
theorem ustr : Tryd.prog.underlying 9 = some .string := by kernel_rfl
theorem ubool : Tryd.prog.underlying 4 = some .bool := by kernel_rfl
theorem uu8s : Tryd.prog.underlying 43 = some (.slice 5) := by kernel_rfl
theorem si64 : (Tryd.prog.underlying 2).isSome = true := by kernel_rfl
theorem su64 : (Tryd.prog.underlying 81).isSome = true := by kernel_rfl
theorem su8 : (Tryd.prog.underlying 5).isSome = true := by kernel_rfl
theorem si32 : (Tryd.prog.underlying 21).isSome = true := by kernel_rfl

theorem hb_wWrap : hasBody Tryd.prog 40 = true := by kernel_rfl
theorem hb_wShow : hasBody Tryd.prog 45 = true := by kernel_rfl
theorem hb_wRead : hasBody Tryd.prog 56 = true := by kernel_rfl
theorem hb_rWrap : hasBody Tryd.prog 44 = true := by kernel_rfl
theorem hb_rShow : hasBody Tryd.prog 46 = true := by kernel_rfl
theorem hb_rRead : hasBody Tryd.prog 59 = true := by kernel_rfl
theorem hb_back : hasBody Tryd.prog 63 = true := by kernel_rfl
theorem hb_size : hasBody Tryd.prog 66 = true := by kernel_rfl
theorem hb_Replace : hasBody Tryd.prog 64 = true := by kernel_rfl
theorem hb_FormatInt : hasBody Tryd.prog 65 = true := by kernel_rfl
theorem hb_CutPrefix : hasBody Tryd.prog 71 = true := by kernel_rfl

def ints (L : List Int) : D := .slice (L.map i64)

/-! ### numbers of the language -/
theorem wrap_u64 (n : Int) : IntKind.u64.wrap n = n % 18446744073709551616 := by simp [IntKind.wrap, IntKind.bits, IntKind.signed]
theorem wrap_i64 (n : Int) : IntKind.i64.wrap n = (n + 9223372036854775808) % 18446744073709551616 - 9223372036854775808 := by
  simp [IntKind.wrap, IntKind.bits, IntKind.signed]; split <;> omega
theorem wrap_u8 (n : Int) : IntKind.u8.wrap n = n % 256 := by simp [IntKind.wrap, IntKind.bits, IntKind.signed]
theorem wrap_i32 (n : Int) : IntKind.i32.wrap n = (n + 2147483648) % 4294967296 - 2147483648 := by
  simp [IntKind.wrap, IntKind.bits, IntKind.signed]; split <;> omega
/-- a number as the language has it -/
def W (n : Int) : Int := (n + 4611686018427387904) % 9223372036854775808 - 4611686018427387904
theorem W_bd (n : Int) : -4611686018427387904 ≤ W n ∧ W n ≤ 4611686018427387903 := by unfold W; omega
theorem W_id {n : Int} (h : -4611686018427387904 ≤ n ∧ n ≤ 4611686018427387903) : W n = n := by unfold W; omega
theorem W_W (n : Int) : W (W n) = W n := W_id (W_bd n)

/-! ### the library -/
theorem tup_ss {St : Stab} {w : World} (a b : Value) : RepD St w (.tuple #[a, b]) (.tup [.val a, .val b]) :=
  .tup [_, _] _ rfl fun j u d hu hd => by
    match j with
    | 0 => simp at hu hd; subst hu; subst hd; exact .val _
    | 1 => simp at hu hd; subst hu; subst hd; exact .val _
    | j + 2 => simp at hu

theorem CutPrefix_ok (s p : List UInt8) : PCall Tryd.prog 71 [str s, str p] (.tup [str (Lib.trimPrefix s p), bl (Lib.hasPrefix s p)]) :=
  pcall_plain (us := [.string ⟨s.toArray⟩, .string ⟨p.toArray⟩]) (fun _ _ => tup_ss _ _) fun _ w _ => (Tryd.strings_CutPrefix _ _ w).mono fun e w' ⟨he, hw⟩ => ⟨he, by subst hw; exact Below.refl _ _⟩

theorem FormatInt_ok (n : Int) (h0 : -9223372036854775808 ≤ n) (h1 : n ≤ 9223372036854775807) : PCall Tryd.prog 65 [i64 n, i64 10] (str (Lib.itoa n)) :=
  pcall_plain (us := [.int .i64 n, .int .i64 10]) (fun _ _ => .val _) fun _ w hgl => (Tryd.strconv_FormatInt_10 n h0 h1 w (by
    obtain ⟨_, _, ⟨e, t, h3⟩, _⟩ := hgl
    have key : ∀ (o : Option Nat), o = some 5 → (o.bind fun g => match w.heap[g]? with | some (.cells cs _ _) => some cs | _ => none) = some (Lib.pow10Tab.map fun z => Value.int .u64 z).toArray := by
      rintro _ rfl; simp only [Option.bind_some, h3]
    exact key _ (by kernel_rfl))).mono fun e w' ⟨he, k, os, hw⟩ => ⟨he, by
      subst hw
      exact ⟨rfl, rfl, rfl, by simp [Sort.grow, World.drewN], fun i hi => by simp [Sort.grow, World.drewN, Array.getElem?_append, hi]⟩⟩

theorem Replace_ok (s a b : List UInt8) (n : Int) (ha : 1 ≤ a.length) (hs : s.length ≤ 1000) (hb : b.length ≤ 1000) : PCall Tryd.prog 64 [str s, str a, str b, i64 n] (str (Lib.replace s a b n)) :=
  pcall_plain (us := [.string ⟨s.toArray⟩, .string ⟨a.toArray⟩, .string ⟨b.toArray⟩, .int .i64 n]) (fun _ _ => .val _) fun _ w hgl => by
    obtain ⟨_, ⟨m, e, t, h0⟩, _⟩ := hgl
    refine (Tryd.strings_Replace ⟨s.toArray⟩ ⟨a.toArray⟩ ⟨b.toArray⟩ n m w (by rw [str_size]; omega) ?_ (by rw [str_size]; exact ha) ?_).mono fun e w' ⟨he, hw⟩ => ⟨he, hw⟩
    · exact cell_of_row w 2 0 _ e t h0
    · have h1 := Lib.count_le s a
      have h2 : Lib.countB ⟨s.toArray⟩ ⟨a.toArray⟩ = Lib.count s a := rfl
      rw [h2, str_size, str_size]
      have h3 := Nat.mul_le_mul (show Lib.count s a ≤ 1001 by omega) hb
      omega
end Go.Proofs.YtbgomheagkcmaaaDoor
/- The token statements: the plain functions. -/
namespace Go.Proofs.YtbgomheagkcmaaaDoor
open Go.Sx

/-- a token -/
structure Tk where
  kind : Int
  text : List UInt8
  num : Int
  pos : Int
deriving DecidableEq

def signL : List UInt8 := [33, 36, 37, 38, 42, 43, 45, 47, 58, 60, 61, 62, 63, 64, 94, 124]
def isSign (c : UInt8) : Bool := signL.contains c
def isSmall (c : UInt8) : Bool := decide (97 ≤ c.toNat ∧ c.toNat ≤ 122)
def isGreat (c : UInt8) : Bool := decide (65 ≤ c.toNat ∧ c.toNat ≤ 90)
def isDigit (c : UInt8) : Bool := decide (48 ≤ c.toNat ∧ c.toNat ≤ 57)
def isInner (c : UInt8) : Bool := isSmall c || isGreat c || isDigit c || c == 95 || c == 39
def kws : List (List UInt8) := [[108, 101, 116], [114, 101, 99], [105, 110], [102, 117, 110], [105, 102], [116, 104, 101, 110], [101, 108, 115, 101], [109, 97, 116, 99, 104], [119, 105, 116, 104], [101, 110, 100], [114, 97, 105, 115, 101], [116, 114, 121], [111, 112, 101, 110], [116, 121, 112, 101], [111, 102], [105, 110, 102, 105, 120, 108], [105, 110, 102, 105, 120, 114], [105, 110, 102, 105, 120], [45, 62], [61], [124], [40], [41], [95], [59, 59]]
def isKey (s : List UInt8) : Bool := kws.contains s
/-- how many bytes of a kind a text begins with -/
def spanF (p : UInt8 → Bool) : List UInt8 → Nat
  | [] => 0
  | c :: s => if p c then spanF p s + 1 else 0
def hexD (n : Nat) : UInt8 := if n < 10 then UInt8.ofNat (48 + n) else UInt8.ofNat (87 + n)
def hexV (c : UInt8) : Int := if 48 ≤ c.toNat ∧ c.toNat ≤ 57 then c.toNat - 48 else if 97 ≤ c.toNat ∧ c.toNat ≤ 102 then c.toNat - 87 else -1
def quoteC (c : UInt8) : List UInt8 := if c = 34 ∨ c = 92 then [92, c] else if c = 10 then [92, 110] else if c.toNat < 32 ∨ c.toNat > 126 then [92, 120, hexD (c.toNat / 16), hexD (c.toNat % 16)] else [c]
def quoteF (s : List UInt8) : List UInt8 := 34 :: (s.flatMap quoteC ++ [34])
/-- what stands behind an opening quote: the text, and what is left behind its end -/
def quotedG : List UInt8 → List UInt8 → Option (List UInt8 × List UInt8)
  | _, [] => none
  | b, c :: s =>
    if c = 34 then some (b, s)
    else if c.toNat < 32 ∨ c.toNat > 126 then none
    else if c ≠ 92 then quotedG (b ++ [c]) s
    else match s with
      | [] => none
      | d :: s => if d = 34 ∨ d = 92 then quotedG (b ++ [d]) s else if d = 110 then quotedG (b ++ [10]) s
        else if d = 120 then match s with
          | x :: y :: s => if hexV x < 0 ∨ hexV y < 0 then none else quotedG (b ++ [UInt8.ofNat (16 * (hexV x).toNat + (hexV y).toNat)]) s
          | _ => none
        else none
end Go.Proofs.YtbgomheagkcmaaaDoor
/- The token statements: facts on the program's types; the library's functions. -/
namespace Go.Proofs.YtbgomheagkcmaaaDoor
open Go.Sx Go.RowKit

theorem es_toks : elemSize Tryd.prog 23 = some 4 := by kernel_rfl
theorem es_strs : elemSize Tryd.prog 49 = some 1 := by kernel_rfl
theorem et_toks : (elemTy Tryd.prog 23).isSome = true := by kernel_rfl
theorem et_strs : (elemTy Tryd.prog 49).isSome = true := by kernel_rfl
theorem ety_toks : elemTy Tryd.prog 23 = some 37 := by kernel_rfl
theorem ety_strs : elemTy Tryd.prog 49 = some 9 := by kernel_rfl
theorem fo_0 : fieldOff Tryd.prog 37 0 = some 0 := by kernel_rfl
theorem fo_1 : fieldOff Tryd.prog 37 1 = some 1 := by kernel_rfl
theorem fo_2 : fieldOff Tryd.prog 37 2 = some 2 := by kernel_rfl
theorem fo_3 : fieldOff Tryd.prog 37 3 = some 3 := by kernel_rfl
theorem tc_str : tyCells Tryd.prog 9 = some (false, 1) := by kernel_rfl
theorem tc_int : tyCells Tryd.prog 3 = some (false, 1) := by kernel_rfl
theorem tc_kind : tyCells Tryd.prog 35 = some (false, 1) := by kernel_rfl
theorem tc_tok : tyCells Tryd.prog 37 = some (true, 4) := by kernel_rfl
theorem tc_u8s : tyCells Tryd.prog 43 = some (false, 1) := by kernel_rfl
theorem tc_toks : tyCells Tryd.prog 23 = some (false, 1) := by kernel_rfl
theorem tc_strs : tyCells Tryd.prog 49 = some (false, 1) := by kernel_rfl
theorem tc_bool : tyCells Tryd.prog 4 = some (false, 1) := by kernel_rfl
theorem tc_err : tyCells Tryd.prog 24 = some (false, 1) := by kernel_rfl
theorem zl_tok : zeroLen Tryd.prog 37 = some 4 := by kernel_rfl
theorem zl_str : zeroLen Tryd.prog 9 = some 1 := by kernel_rfl
theorem by_toks : bytesOf Tryd.prog 23 = some 40 := by kernel_rfl
theorem by_strs : bytesOf Tryd.prog 49 = some 16 := by kernel_rfl
theorem zs_tok : (zeroOf Tryd.prog 37).isSome = true := by kernel_rfl
theorem zs_str : (zeroOf Tryd.prog 9).isSome = true := by kernel_rfl
theorem zo_tok : zeroOf Tryd.prog 37 = some [.int .i64 0, .string ByteArray.empty, .int .i64 0, .int .i64 0] := by kernel_rfl
theorem zo_int : zeroOf Tryd.prog 3 = some [.int .i64 0] := by kernel_rfl
theorem zd_tok : zeroD Tryd.prog 37 = some (.agg [.val (.int .i64 0), .val (.string ByteArray.empty), .val (.int .i64 0), .val (.int .i64 0)]) := by kernel_rfl

theorem hb_Key : hasBody Tryd.prog 24 = true := by kernel_rfl
theorem hb_words : hasBody Tryd.prog 48 = true := by kernel_rfl
theorem hb_small : hasBody Tryd.prog 38 = true := by kernel_rfl
theorem hb_great : hasBody Tryd.prog 39 = true := by kernel_rfl
theorem hb_digit : hasBody Tryd.prog 55 = true := by kernel_rfl
theorem hb_inner : hasBody Tryd.prog 37 = true := by kernel_rfl
theorem hb_sign : hasBody Tryd.prog 41 = true := by kernel_rfl
theorem hb_all : hasBody Tryd.prog 36 = true := by kernel_rfl
theorem hb_Right : hasBody Tryd.prog 20 = true := by kernel_rfl
theorem hb_Right1 : hasBody Tryd.prog 35 = true := by kernel_rfl
theorem hb_Quote : hasBody Tryd.prog 26 = true := by kernel_rfl
theorem hb_Word : hasBody Tryd.prog 22 = true := by kernel_rfl
theorem hb_span : hasBody Tryd.prog 28 = true := by kernel_rfl
theorem hb_quoted : hasBody Tryd.prog 57 = true := by kernel_rfl
theorem hb_one : hasBody Tryd.prog 30 = true := by kernel_rfl
theorem hb_one1 : hasBody Tryd.prog 53 = true := by kernel_rfl
theorem hb_Lex : hasBody Tryd.prog 11 = true := by kernel_rfl
theorem hb_Lex1 : hasBody Tryd.prog 29 = true := by kernel_rfl
theorem hb_Show : hasBody Tryd.prog 15 = true := by kernel_rfl
theorem hb_Same : hasBody Tryd.prog 19 = true := by kernel_rfl
theorem hb_Same1 : hasBody Tryd.prog 34 = true := by kernel_rfl
theorem hb_EqualFunc : hasBody Tryd.prog 33 = true := by kernel_rfl
theorem hb_Contains : hasBody Tryd.prog 47 = true := by kernel_rfl
theorem hb_Index : hasBody Tryd.prog 67 = true := by kernel_rfl
theorem hb_Fields : hasBody Tryd.prog 68 = true := by kernel_rfl
theorem hb_IndexByte : hasBody Tryd.prog 62 = true := by kernel_rfl
theorem hb_HasPrefix : hasBody Tryd.prog 54 = true := by kernel_rfl
theorem hb_Join : hasBody Tryd.prog 32 = true := by kernel_rfl
theorem hb_copyCheck : hasBody Tryd.prog 69 = true := by kernel_rfl
theorem hb_WriteString : hasBody Tryd.prog 51 = true := by kernel_rfl
theorem hb_WriteByte : hasBody Tryd.prog 50 = true := by kernel_rfl
theorem hb_String : hasBody Tryd.prog 52 = true := by kernel_rfl
theorem hb_rwords : hasBody Tryd.prog 49 = true := by kernel_rfl
theorem hb_rKey : hasBody Tryd.prog 25 = true := by kernel_rfl
theorem hb_is : hasBody Tryd.prog 42 = true := by kernel_rfl
theorem hb_while : hasBody Tryd.prog 43 = true := by kernel_rfl
theorem hb_rRight3 : hasBody Tryd.prog 21 = true := by kernel_rfl
theorem hb_rQuote : hasBody Tryd.prog 27 = true := by kernel_rfl
theorem hb_rWord : hasBody Tryd.prog 23 = true := by kernel_rfl
theorem hb_hex : hasBody Tryd.prog 72 = true := by kernel_rfl
theorem hb_text : hasBody Tryd.prog 60 = true := by kernel_rfl
theorem hb_named : hasBody Tryd.prog 58 = true := by kernel_rfl
theorem hb_rone : hasBody Tryd.prog 31 = true := by kernel_rfl
theorem hb_rLex : hasBody Tryd.prog 12 = true := by kernel_rfl
theorem hb_rSame : hasBody Tryd.prog 18 = true := by kernel_rfl
theorem hb_rShow3 : hasBody Tryd.prog 17 = true := by kernel_rfl
theorem hb_own : hasBody Tryd.prog 16 = true := by kernel_rfl
theorem hb_few : hasBody Tryd.prog 14 = true := by kernel_rfl
theorem hb_exact : hasBody Tryd.prog 13 = true := by kernel_rfl
theorem hb_awake : hasBody Tryd.prog 10 = true := by kernel_rfl

def Tk.av (n : Tk) : D := .agg [.val (.int .i64 n.kind), .val (.string ⟨n.text.toArray⟩), .val (.int .i64 n.num), .val (.int .i64 n.pos)]
def toks (L : List Tk) : D := .slice (L.map Tk.av)
def strs (L : List (List UInt8)) : D := .slice (L.map str)

theorem flats_strs (L : List (List UInt8)) : flats (L.map str) = L.map str := by
  induction L with
  | nil => rfl
  | cons x r ih => exact congrArg (_ :: ·) ih

/-- a fresh row of texts -/
theorem rep_strs {w : World} {b : Nat} {L : List (List UInt8)} {e : TypeId} {t : Nat × Nat} {St : Stab} (hs : ∀ o, St b o) (hm : L.length ≤ maxLen) (h : w.heap[b]? = some (.cells (L.map fun l => Value.string ⟨l.toArray⟩).toArray e t)) :
    RepD St w (.slice (some ⟨b, 0, none⟩) L.length L.length) (strs L) := by
  refine .slice _ _ _ 1 (L.map str) (L.map fun l => Value.string ⟨l.toArray⟩) (by simp) (Nat.le_refl _) hm (fun x hx => ?_) (by rw [flats_strs]; simp) (fun u hu => ?_) (fun _ => ⟨_, rfl, fun j u hu => ⟨hs _, ?_⟩⟩) (fun j u d hu hd => ?_)
  · obtain ⟨l, _, rfl⟩ := List.mem_map.1 hx; rfl
  · obtain ⟨l, _, rfl⟩ := List.mem_map.1 hu; rfl
  · rw [Addr.add_lit, Nat.zero_add, cell_of_row w b j _ e t h]; simpa using hu
  · rw [flats_strs, List.getElem?_map] at hd
    rw [List.getElem?_map] at hu
    cases hl : L[j]? with
    | none => rw [hl] at hu; cases hu
    | some l => rw [hl] at hu hd; cases hu; cases hd; exact .val _

def wordsT : List UInt8 := [108, 101, 116, 32, 114, 101, 99, 32, 105, 110, 32, 102, 117, 110, 32, 105, 102, 32, 116, 104, 101, 110, 32, 101, 108, 115, 101, 32, 109, 97, 116, 99, 104, 32, 119, 105, 116, 104, 32, 101, 110, 100, 32, 114, 97, 105, 115, 101, 32, 116, 114, 121, 32, 111, 112, 101, 110, 32, 116, 121, 112, 101, 32, 111, 102, 32, 105, 110, 102, 105, 120, 108, 32, 105, 110, 102, 105, 120, 114, 32, 105, 110, 102, 105, 120, 32, 45, 62, 32, 61, 32, 124, 32, 40, 32, 41, 32, 95, 32, 59, 59]
theorem wordsT_kws : Lib.fields wordsT = kws := by decide +kernel

theorem ascii_of {s : List UInt8} (h : s.all (fun b => decide (b.toNat < 128)) = true) : ∀ (j : Nat) b, s[j]? = some b → b.toNat < 128 := fun _j b hb => of_decide_eq_true (List.all_eq_true.1 h b (List.mem_of_getElem? hb))

theorem Fields_ok : PCall Tryd.prog 68 [str wordsT] (strs kws) := by
  intro St w vs hst hgl hr
  obtain ⟨v, rfl, hv⟩ : ∃ v, vs = [v] ∧ v = .string ⟨wordsT.toArray⟩ := by
    have := RepDs.vals (us := [.string ⟨wordsT.toArray⟩]) hr
    exact ⟨_, this, rfl⟩
  subst hv
  refine (Tryd.strings_Fields_laid ⟨wordsT.toArray⟩ w (by decide) (ascii_of (by decide)) ?_).mono fun e w' ⟨he, hw⟩ => ?_
  · obtain ⟨_, _, _, e, t, h0⟩ := hgl
    have key : ∀ (o : Option Nat), o = some 0 → (o.bind fun g => match w.heap[g]? with | some (.cells cs _ _) => some cs | _ => none) = some (Lib.asciiSpaceTab.map fun z => Value.int .u8 z).toArray := by
      rintro _ rfl; simp only [Option.bind_some, h0]
    exact key _ (by kernel_rfl)
  · rw [show Lib.fields (⟨wordsT.toArray⟩ : ByteArray).data.toList = kws from wordsT_kws] at he hw
    subst hw
    refine ⟨_, fun b o => St b o ∨ b = w.heap.size, he, rep_strs (fun _ => .inr rfl) (by decide) (t := (0, 0)) (by show (w.heap.push _)[w.heap.size]? = _; exact Array.getElem?_push_size), (Below.refl _ _).alloc (Nat.le_refl _) _, ?_, fun b o h => h.imp id (fun h => by omega), fun b o h => ?_⟩
    · refine ⟨fun _ _ h => .inl h, fun b o u hc hu => ?_, fun b hc => ?_⟩
      · exact (World.cell?_of_block (a := ⟨b, o, none⟩) (Below.heap_alloc _ _ _ (hst b o hc))).trans hu
      · exact Below.heap_alloc _ _ _ (hst b 0 (hc 0))
    · show b < (w.heap.push _).size
      rw [Array.size_push]; rcases h with h | h
      · have := hst b o h; omega
      · omega

theorem IndexByte_ok (s : List UInt8) (c : UInt8) : PCall Tryd.prog 62 [str s, .val (.int .u8 c.toNat)] (i64 (Lib.indexByte s c)) :=
  pcall_plain (us := [.string ⟨s.toArray⟩, .int .u8 c.toNat]) (fun _ _ => .val _) fun _ w _ => (Tryd.strings_IndexByte _ _ w).mono fun e w' ⟨he, hw⟩ => ⟨by rw [he]; simp, by subst hw; exact Below.refl _ _⟩
theorem HasPrefix_ok (s p : List UInt8) : PCall Tryd.prog 54 [str s, str p] (bl (Lib.hasPrefix s p)) :=
  pcall_plain (us := [.string ⟨s.toArray⟩, .string ⟨p.toArray⟩]) (fun _ _ => .val _) fun _ w _ => (Tryd.strings_HasPrefix _ _ w).mono fun e w' ⟨he, hw⟩ => ⟨he, by subst hw; exact Below.refl _ _⟩
end Go.Proofs.YtbgomheagkcmaaaDoor
/- The token statements: the walks of what tells bytes: small, great, digit, inner, sign, span, all; the document's is, while. -/
namespace Go.Proofs.YtbgomheagkcmaaaDoor
open Go.Sx
attribute [local irreducible] hasBody Program.underlying Ylds astep alex alexE alexD awp PCall FCall RCall MCall QCall athen ablock ajump rpost fpost mpost

abbrev u8 (c : UInt8) : D := .val (.int .u8 (c.toNat : Int))
theorem bl_is {a b : Bool} (h : a = b) : D.val (Value.bool a) = bl b := by subst h; rfl
theorem i64_is {a b : Int} (h : a = b) : D.val (Value.int .i64 a) = i64 b := by subst h; rfl

theorem small_ok (c : UInt8) : PCall Tryd.prog 38 [u8 c] (bl (isSmall c)) := by
  refine pcall_of Tryd.func38 rfl Tryd.ntmps38 Tryd.results38 rfl ?_
  intro wb St0
  repeat' first
    | refine en_n ?_
    | refine awp_seq ?_
    | refine awp_region ?_
    | refine alex_nil ?_
    | refine w0 ?_
    | (apply k1u (hd := rfl); exact rfl; exact rfl)
    | apply ay (hd := rfl)
    | (apply Y_move_d; exact rfl)
    | (apply Y_assign_d; exact rfl)
    | (apply Y_leq; exact rfl; exact rfl)
    | (apply Y_pick_t; exact rfl; exact rfl)
    | (apply Y_pick_f; exact rfl; exact rfl)
    | (apply w1; exact rfl; exact rfl)
    | (apply gD; exact rfl; exact rfl; (intro hb); rotate_left; (intro hb); rotate_right)
    | refine awp_ret ?_
    | refine rpost_ret ?_
    | (apply res1; exact rfl)
  all_goals exact bl_is (by simp only [isSmall]; first | (rw [decide_eq_decide]; omega) | (symm; rw [decide_eq_false_iff_not]; omega))
theorem great_ok (c : UInt8) : PCall Tryd.prog 39 [u8 c] (bl (isGreat c)) := by
  refine pcall_of Tryd.func39 rfl Tryd.ntmps39 Tryd.results39 rfl ?_
  intro wb St0
  repeat' first
    | refine en_n ?_
    | refine awp_seq ?_
    | refine awp_region ?_
    | refine alex_nil ?_
    | refine w0 ?_
    | (apply k1u (hd := rfl); exact rfl; exact rfl)
    | apply ay (hd := rfl)
    | (apply Y_move_d; exact rfl)
    | (apply Y_assign_d; exact rfl)
    | (apply Y_leq; exact rfl; exact rfl)
    | (apply Y_pick_t; exact rfl; exact rfl)
    | (apply Y_pick_f; exact rfl; exact rfl)
    | (apply w1; exact rfl; exact rfl)
    | (apply gD; exact rfl; exact rfl; (intro hb); rotate_left; (intro hb); rotate_right)
    | refine awp_ret ?_
    | refine rpost_ret ?_
    | (apply res1; exact rfl)
  all_goals exact bl_is (by simp only [isGreat]; first | (rw [decide_eq_decide]; omega) | (symm; rw [decide_eq_false_iff_not]; omega))
theorem digit_ok (c : UInt8) : PCall Tryd.prog 55 [u8 c] (bl (isDigit c)) := by
  refine pcall_of Tryd.func55 rfl Tryd.ntmps55 Tryd.results55 rfl ?_
  intro wb St0
  repeat' first
    | refine en_n ?_
    | refine awp_seq ?_
    | refine awp_region ?_
    | refine alex_nil ?_
    | refine w0 ?_
    | (apply k1u (hd := rfl); exact rfl; exact rfl)
    | apply ay (hd := rfl)
    | (apply Y_move_d; exact rfl)
    | (apply Y_assign_d; exact rfl)
    | (apply Y_leq; exact rfl; exact rfl)
    | (apply Y_pick_t; exact rfl; exact rfl)
    | (apply Y_pick_f; exact rfl; exact rfl)
    | (apply w1; exact rfl; exact rfl)
    | (apply gD; exact rfl; exact rfl; (intro hb); rotate_left; (intro hb); rotate_right)
    | refine awp_ret ?_
    | refine rpost_ret ?_
    | (apply res1; exact rfl)
  all_goals exact bl_is (by simp only [isDigit]; first | (rw [decide_eq_decide]; omega) | (symm; rw [decide_eq_false_iff_not]; omega))
theorem u8_eq (c d : UInt8) : (c == d) = decide ((c.toNat : Int) = (d.toNat : Int)) := by
  cases h : c == d with
  | true => rw [eq_of_beq h]; simp
  | false =>
    symm; rw [decide_eq_false_iff_not]; intro h2
    have : c = d := UInt8.toNat_inj.1 (by omega)
    rw [this] at h; simp at h
theorem inner_ok (c : UInt8) : PCall Tryd.prog 37 [u8 c] (bl (isInner c)) := by
  refine pcall_of Tryd.func37 rfl Tryd.ntmps37 Tryd.results37 rfl ?_
  intro wb St0
  repeat' first
    | refine en_n ?_
    | refine awp_seq ?_
    | refine awp_region ?_
    | refine alex_nil ?_
    | refine w0 ?_
    | (apply k0u (hd := rfl); exact rfl; exact rfl)
    | (apply Y_call (hb := hb_small) (hc := small_ok c))
    | (apply Y_call (hb := hb_great) (hc := great_ok c))
    | (apply Y_call (hb := hb_digit) (hc := digit_ok c))
    | apply ay (hd := rfl)
    | (apply Y_move_d; exact rfl)
    | (apply Y_assign_d; exact rfl)
    | (apply Y_eql; exact rfl; exact rfl)
    | (apply Y_pick_t; exact rfl; exact rfl)
    | (apply Y_pick_f; exact rfl; exact rfl)
    | (apply w1; exact rfl; exact rfl)
    | (apply gD; exact rfl; exact rfl; (intro hb); rotate_left; (intro hb); rotate_right)
    | refine awp_ret ?_
    | refine rpost_ret ?_
    | (apply res1; exact rfl)
    | exact CoL_nil
    | refine CoL_d rfl ?_
  all_goals refine bl_is ?_
  all_goals simp only [isInner, isSmall, isGreat, isDigit, u8_eq, ← Bool.decide_or, show ((95 : UInt8).toNat : Int) = 95 from rfl, show ((39 : UInt8).toNat : Int) = 39 from rfl] at *
  all_goals first | (rw [decide_eq_decide]; omega) | (symm; rw [decide_eq_true_eq]; omega)
theorem idx_is (c : UInt8) : decide (Lib.indexByte signL c ≥ 0) = isSign c := by rw [isSign, Lib.contains_iff_indexByte]
theorem sign_ok (c : UInt8) : PCall Tryd.prog 41 [u8 c] (bl (isSign c)) := by
  refine pcall_of Tryd.func41 rfl Tryd.ntmps41 Tryd.results41 rfl ?_
  intro wb St0
  repeat' first
    | refine en_n ?_
    | refine awp_seq ?_
    | refine awp_region ?_
    | refine alex_nil ?_
    | refine w0 ?_
    | (apply Y_call (hb := hb_IndexByte) (hc := IndexByte_ok signL c))
    | apply ay (hd := rfl)
    | (apply Y_move_d; exact rfl)
    | (apply Y_assign_d; exact rfl)
    | (apply Y_geq; exact rfl; exact rfl)
    | refine awp_ret ?_
    | refine rpost_ret ?_
    | (apply res1; exact rfl)
    | exact CoL_nil
    | refine CoL_d rfl ?_
  exact bl_is (idx_is c)
def isBound (c : UInt8) : Bool := c != 10
theorem Lex1_ok (c : UInt8) : PCall Tryd.prog 29 [u8 c] (bl (isBound c)) := by
  refine pcall_of Tryd.func29 rfl Tryd.ntmps29 Tryd.results29 rfl ?_
  intro wb St0
  repeat' first
    | refine en_n ?_
    | refine awp_seq ?_
    | refine awp_region ?_
    | refine alex_nil ?_
    | refine w0 ?_
    | apply ay (hd := rfl)
    | (apply Y_move_d; exact rfl)
    | (apply Y_assign_d; exact rfl)
    | (apply Y_neq; exact rfl; exact rfl)
    | refine awp_ret ?_
    | refine rpost_ret ?_
    | (apply res1; exact rfl)
  exact bl_is (by rw [isBound, bne, u8_eq]; simp)
end Go.Proofs.YtbgomheagkcmaaaDoor
/- The token statements: the document's is. -/
namespace Go.Proofs.YtbgomheagkcmaaaDoor
open Go.Sx
attribute [local irreducible] hasBody Program.underlying Ylds astep alex alexE alexD awp PCall FCall RCall MCall QCall athen ablock ajump rpost fpost mpost

def isK (c : UInt8) : Int := if isSign c then 5 else if isSmall c then 1 else if isGreat c then 2 else if isDigit c then 3 else if c = 95 ∨ c = 39 then 4 else 0
theorem sign_hit {c : UInt8} {i : Nat} (h : i < 16) (h1 : ((signL.getD i 0).toNat : Int) = (c.toNat : Int)) : isSign c = true := by
  have : signL.getD i 0 = c := UInt8.toNat_inj.1 (by omega)
  have h2 : i < signL.length := h
  rw [isSign, ← this, List.getD_eq_getElem?_getD, List.getElem?_eq_getElem h2]
  simp
theorem sign_miss {c : UInt8} (h : ∀ j, j < 16 → (signL.getD j 0) ≠ c) : isSign c = false := by
  cases h2 : isSign c with
  | false => rfl
  | true =>
    rw [isSign] at h2
    obtain ⟨j, hj, e⟩ := List.getElem_of_mem (List.contains_iff_mem.1 h2)
    refine absurd ?_ (h j hj)
    rw [List.getD_eq_getElem?_getD, List.getElem?_eq_getElem hj]; exact e

set_option maxHeartbeats 4000000 in
theorem is_ok (c : UInt8) : PCall Tryd.prog 42 [u8 c] (i64 (isK c)) := by
  refine pcall_of Tryd.func42 rfl Tryd.ntmps42 Tryd.results42 rfl ?_
  intro wb St0
  repeat' first
    | refine en_n ?_
    | refine awp_seq ?_
    | refine awp_region ?_
    | refine alex_nil ?_
    | refine w0 ?_
    | apply ay (hd := rfl)
    | (apply Y_assign_d; exact rfl)
    | refine awp_block ?_
  refine awp_loopF (α := Nat) (fun i => i ≤ 16 ∧ ∀ j, j < i → signL.getD j 0 ≠ c) (fun i => [(0, .d (u8 c)), (3, .d (str signL)), (4, .d (i64 (i : Int)))]) (fun _ => []) (fun i => 16 - i) 0 ⟨Nat.zero_le _, by omega⟩
      (Fits_mk (Le_cons rfl (Le_cons rfl (Le_cons rfl Le_nil))) Pre_nil rfl rfl) ?_
  rintro i ⟨hi1, hi2⟩
  have hL : signL.length = 16 := rfl
  repeat' first
    | refine en_n ?_
    | refine awp_seq ?_
    | refine awp_region ?_
    | refine alex_nil ?_
    | refine w0 ?_
    | (apply k1u (hd := rfl); exact rfl; exact rfl)
    | (apply k0u (hd := rfl); exact rfl; exact rfl)
    | (apply Y_len_l; exact rfl; with_reducible exact ustr)
    | (apply Y_idx_l; exact rfl; exact rfl; with_reducible exact ustr; (first | assumption | omega))
    | apply ay (hd := rfl)
    | (apply Y_move_d; exact rfl)
    | (apply Y_assign_d; exact rfl)
    | (apply Y_lss; exact rfl; exact rfl)
    | (apply Y_leq; exact rfl; exact rfl)
    | (apply Y_geq; exact rfl; exact rfl)
    | (apply Y_eql; exact rfl; exact rfl)
    | (apply Y_add; exact rfl; exact rfl)
    | (apply Y_pick_t; exact rfl; exact rfl)
    | (apply Y_pick_f; exact rfl; exact rfl)
    | (apply w1; exact rfl; exact rfl)
    | (apply gD; exact rfl; exact rfl; (intro hb); rotate_left; (intro hb); rotate_right)
    | (apply awp_condD; exact rfl; (intro hb); rotate_left; (intro hb); rotate_right)
    | (apply awp_condT; exact rfl)
    | (apply awp_condF; exact rfl)
    | refine awp_block ?_
    | refine awp_skip ?_
    | refine awp_ret ?_
    | refine awp_exit ?_
    | refine en_r ?_
    | refine en_e ?_
    | refine eb_n ?_
    | refine eb_r ?_
    | refine eb_e ?_
    | refine rpost_ret ?_
    | (apply res1; exact rfl)
  · rename_i h1; rw [hL] at h1
    exact i64_is (by rw [isK, sign_hit (by omega) hb, if_pos rfl])
  · omega
  · rename_i h1; rw [hL] at h1
    refine ⟨i + 1, ⟨by omega, fun j hj => ?_⟩, by omega, Fits_mk (Le_cons rfl (Le_cons rfl (Le_cons rfl Le_nil))) Pre_nil rfl rfl⟩
    rcases Nat.lt_or_ge j i with h | h
    · exact hi2 j h
    · rw [show j = i by omega]; rintro rfl; exact hb rfl
  all_goals
    have hs : isSign c = false := sign_miss fun j hj => hi2 j (by omega)
    have e95 : c = 95 ↔ (c.toNat : Int) = 95 := by rw [← UInt8.toNat_inj]; show _ = 95 ↔ _; omega
    have e39 : c = 39 ↔ (c.toNat : Int) = 39 := by rw [← UInt8.toNat_inj]; show _ = 39 ↔ _; omega
    refine i64_is ?_
    rw [isK, hs, if_neg (by decide)]
    simp only [isSmall, isGreat, isDigit, decide_eq_true_eq, e95, e39]
    repeat' split
    all_goals first | rfl | omega
end Go.Proofs.YtbgomheagkcmaaaDoor
/- The token statements: span and all: functions that are handed a function. -/
namespace Go.Proofs.YtbgomheagkcmaaaDoor
open Go.Sx
attribute [local irreducible] hasBody Program.underlying Ylds astep alex alexE alexD awp PCall FCall RCall MCall QCall athen ablock ajump rpost fpost mpost

theorem spanF_le (p : UInt8 → Bool) : ∀ s : List UInt8, spanF p s ≤ s.length
  | [] => Nat.le_refl _
  | c :: s => by
    rw [spanF]; split
    · exact Nat.succ_le_succ (spanF_le p s)
    · exact Nat.zero_le _
theorem spanF_in (p : UInt8 → Bool) : ∀ (s : List UInt8) (j : Nat), j < spanF p s → p (s.getD j 0) = true
  | [], _, h => absurd h (Nat.not_lt_zero _)
  | c :: s, j, h => by
    rw [spanF] at h
    split at h
    · rename_i hp
      cases j with
      | zero => exact hp
      | succ j => exact spanF_in p s j (by omega)
    · exact absurd h (Nat.not_lt_zero _)
theorem spanF_is (p : UInt8 → Bool) : ∀ (s : List UInt8) (n : Nat), n ≤ s.length → (∀ j, j < n → p (s.getD j 0) = true) → (n = s.length ∨ p (s.getD n 0) = false) → spanF p s = n
  | [], n, h, _, _ => by rw [spanF]; simp at h; omega
  | c :: s, n, h, h1, h2 => by
    rw [spanF]
    cases n with
    | zero =>
      have h2 : p c = false := by
        rcases h2 with h2 | h2
        · simp at h2
        · exact h2
      rw [h2]; rfl
    | succ n =>
      have h3 : p c = true := h1 0 (by omega)
      rw [if_pos h3, spanF_is p s n (by simpa using h) (fun j hj => h1 (j + 1) (by omega)) (by simpa using h2)]

theorem span_ok (f : FuncId) (p : UInt8 → Bool) (hb : hasBody Tryd.prog f = true) (hp : ∀ c, PCall Tryd.prog f [u8 c] (bl (p c))) (s : List UInt8) (hs : s.length ≤ 1000000) :
    QCall Tryd.prog 28 [.d (str s), .clo f []] [] (i64 (spanF p s)) := by
  have hbf := hb; clear hb
  refine qcall_of Tryd.func28 rfl Tryd.ntmps28 Tryd.results28 rfl ?_
  intro wb St0
  repeat' first
    | refine en_n ?_
    | refine awp_seq ?_
    | refine awp_region ?_
    | refine alex_nil ?_
    | refine w0 ?_
    | apply ay (hd := rfl)
    | (apply Y_assign_d; exact rfl)
    | refine awp_block ?_
  refine awp_loopF (α := Nat) (fun i => i ≤ s.length ∧ ∀ j, j < i → p (s.getD j 0) = true) (fun i => [(0, .d (str s)), (1, .clo f []), (5, .d (i64 (i : Int)))]) (fun _ => []) (fun i => s.length - i) 0 ⟨Nat.zero_le _, by omega⟩
      (Fits_mk (Le_cons rfl (Le_cons rfl (Le_cons rfl Le_nil))) Pre_nil rfl rfl) ?_
  rintro i ⟨hi1, hi2⟩
  repeat' first
    | refine en_n ?_
    | refine awp_seq ?_
    | refine awp_region ?_
    | refine alex_nil ?_
    | refine w0 ?_
    | (apply k1u (hd := rfl); exact rfl; exact rfl)
    | (apply Y_len_l; exact rfl; with_reducible exact ustr)
    | (apply Y_idx_l; exact rfl; exact rfl; with_reducible exact ustr; (first | assumption | omega))
    | (apply Y_move_clo; exact rfl)
    | (apply Y_pclo (hb := hbf) (hc := hp _); exact rfl)
    | apply ay (hd := rfl)
    | (apply Y_move_d; exact rfl)
    | (apply Y_assign_d; exact rfl)
    | (apply Y_lss; exact rfl; exact rfl)
    | (apply Y_add; exact rfl; exact rfl)
    | (apply Y_pick_t; exact rfl; exact rfl)
    | (apply Y_pick_f; exact rfl; exact rfl)
    | (apply w1; exact rfl; exact rfl)
    | (apply gD; exact rfl; exact rfl; (intro hb); rotate_left; (intro hb); rotate_right)
    | (apply awp_condF; exact rfl)
    | (apply awp_cond; exact rfl; (intro hb); rotate_left; (intro hb); rotate_right)
    | refine awp_block ?_
    | refine awp_skip ?_
    | refine awp_ret ?_
    | refine awp_exit ?_
    | refine en_e ?_
    | refine eb_n ?_
    | refine eb_e ?_
    | refine rpost_ret ?_
    | (apply res1; exact rfl)
    | exact CoL_nil
    | refine CoL_d rfl ?_
  · omega
  · refine ⟨i + 1, ⟨by omega, fun j hj => ?_⟩, by omega, Fits_mk (Le_cons rfl (Le_cons rfl (Le_cons rfl Le_nil))) Pre_nil rfl rfl⟩
    rcases Nat.lt_or_ge j i with h | h
    · exact hi2 j h
    · rw [show j = i by omega]; exact hb
  · rw [spanF_is p s i hi1 hi2 (.inr hb)]
  · rw [spanF_is p s i hi1 hi2 (.inl (by omega))]

theorem getB {l : List UInt8} {i : Nat} (h : i < (⟨l.toArray⟩ : ByteArray).size) : (⟨l.toArray⟩ : ByteArray)[i]'h = l.getD i 0 := by
  have hlt : i < l.length := by rw [str_size] at h; exact h
  rw [List.getD_eq_getElem?_getD, List.getElem?_eq_getElem hlt]; rfl
/-- what the range hands over: a letter of one byte -/
theorem dec_low {l : List UInt8} {i : Nat} (h : i < l.length) (h1 : ¬ ((Utf8.decode ⟨l.toArray⟩ i).1 : Int) > 126) : (Utf8.decode ⟨l.toArray⟩ i).2 = 1 ∧ (Utf8.decode ⟨l.toArray⟩ i).1 = (l.getD i 0).toNat ∧ (l.getD i 0).toNat ≤ 126 := by
  have hs : i < (⟨l.toArray⟩ : ByteArray).size := by rw [str_size]; exact h
  rcases Nat.lt_or_ge ((⟨l.toArray⟩ : ByteArray)[i]'hs).toNat 128 with h3 | h3
  · have e := decode_ascii ⟨l.toArray⟩ i hs h3
    rw [getB hs] at e
    rw [e] at h1 ⊢
    dsimp only at h1
    exact ⟨rfl, rfl, by omega⟩
  · have := (decode_high ⟨l.toArray⟩ i hs h3).1
    omega
theorem dec_beyond {l : List UInt8} {i : Nat} (h : i < l.length) (h1 : ((Utf8.decode ⟨l.toArray⟩ i).1 : Int) > 126) : (l.getD i 0).toNat > 126 := by
  have hs : i < (⟨l.toArray⟩ : ByteArray).size := by rw [str_size]; exact h
  rcases Nat.lt_or_ge ((⟨l.toArray⟩ : ByteArray)[i]'hs).toNat 128 with h3 | h3
  · have e := decode_ascii ⟨l.toArray⟩ i hs h3
    rw [getB hs] at e
    rw [e] at h1
    dsimp only at h1
    omega
  · rw [getB hs] at h3
    omega
def allF (p : UInt8 → Bool) (s : List UInt8) : Bool := s.all p && !s.isEmpty
theorem all_out {p : UInt8 → Bool} {s : List UInt8} {i : Nat} (h : i < s.length) (h1 : p (s.getD i 0) = false) : allF p s = false := by
  have : s.all p = false := by
    rw [List.all_eq_false]
    refine ⟨s.getD i 0, ?_, by rw [h1]; decide⟩
    rw [List.getD_eq_getElem?_getD, List.getElem?_eq_getElem h]; simp
  rw [allF, this]; rfl
theorem all_in {p : UInt8 → Bool} {s : List UInt8} (h : ∀ j, j < s.length → p (s.getD j 0) = true) : allF p s = decide (s ≠ []) := by
  have : s.all p = true := by
    rw [List.all_eq_true]; intro x hx
    obtain ⟨j, hj, rfl⟩ := List.getElem_of_mem hx
    have := h j hj
    rwa [List.getD_eq_getElem?_getD, List.getElem?_eq_getElem hj] at this
  rw [allF, this]
  cases s <;> simp

theorem all_ok (f : FuncId) (p : UInt8 → Bool) (hb : hasBody Tryd.prog f = true) (hp : ∀ c, PCall Tryd.prog f [u8 c] (bl (p c))) (hp2 : ∀ c, c.toNat > 126 → p c = false) (s : List UInt8) :
    QCall Tryd.prog 36 [.d (str s), .clo f []] [] (bl (allF p s)) := by
  have hbf := hb; clear hb
  refine qcall_of Tryd.func36 rfl Tryd.ntmps36 Tryd.results36 rfl ?_
  intro wb St0
  repeat' first
    | refine en_n ?_
    | refine awp_seq ?_
    | refine awp_region ?_
    | refine alex_nil ?_
    | refine w0 ?_
    | (apply aRange (hd := rfl) (hro := rfl); exact rfl; with_reducible exact ustr)
    | apply ay (hd := rfl)
    | (apply Y_move_d; exact rfl)
    | (apply Y_assign_d; exact rfl)
    | refine awp_block ?_
  refine awp_loopF (α := Nat) (fun i => i ≤ s.length ∧ ∀ j, j < i → p (s.getD j 0) = true)
    (fun i => [(0, .d (str s)), (1, .clo f []), (8, .ptr 0 0)]) (fun i => [.iter ⟨s.toArray⟩ i]) (fun i => s.length - i) 0 ⟨Nat.zero_le _, by omega⟩
      (Fits_mk (Le_cons rfl (Le_cons rfl (Le_cons rfl Le_nil))) (Pre_cons rfl rfl Pre_nil) rfl rfl) ?_
  rintro i ⟨hi1, hi2⟩
  repeat' first
    | refine en_n ?_
    | refine awp_seq ?_
    | refine awp_region ?_
    | refine alex_nil ?_
    | refine w0 ?_
    | (apply k0u (hd := rfl); exact rfl; exact rfl)
    | (apply Y_neqs; exact rfl; exact rfl)
    | (apply aNext (hd := rfl) (hro := rfl); exact rfl; exact rfl; (intro hb); rotate_left; (intro hb); rotate_right)
    | (apply Y_move_clo; exact rfl)
    | (apply Y_conv; exact rfl; with_reducible exact si32; with_reducible exact uu8)
    | (apply Y_pclo (hb := hbf) (hc := hp (s.getD i 0)); exact rfl)
    | apply ay (hd := rfl)
    | (apply Y_move_d; exact rfl)
    | (apply Y_assign_d; exact rfl)
    | (apply Y_gtr; exact rfl; exact rfl)
    | (apply Y_not; exact rfl)
    | (apply Y_pick_t; exact rfl; exact rfl)
    | (apply Y_pick_f; exact rfl; exact rfl)
    | (apply Y_extract; exact rfl; exact rfl)
    | (apply w1; exact rfl; exact rfl)
    | (apply gD; exact rfl; exact rfl; (intro hb); rotate_left; (intro hb); rotate_right)
    | (apply awp_condT; exact rfl)
    | (apply awp_condF; exact rfl)
    | (apply awp_cond; exact rfl; (intro hb); rotate_left; (intro hb); rotate_right)
    | refine awp_block ?_
    | refine awp_skip ?_
    | refine awp_ret ?_
    | refine awp_exit ?_
    | refine en_r ?_
    | refine en_e ?_
    | refine eb_n ?_
    | refine eb_r ?_
    | refine eb_e ?_
    | refine rpost_ret ?_
    | (apply res1; exact rfl)
  · rename_i h0
    have hlt : i < s.length := by rw [str_size] at h0; exact h0
    exact bl_is (all_out hlt (hp2 _ (dec_beyond hlt hb))).symm
  · rename_i h0
    have hlt : i < s.length := by rw [str_size] at h0; exact h0
    obtain ⟨_, e, hl⟩ := dec_low hlt hb
    refine CoL_d ?_ CoL_nil
    show SV.d (D.val (.int .u8 (IntKind.u8.wrap (((Utf8.decode ⟨s.toArray⟩ i).1 : Nat) : Int)))) = _
    rw [e, wrap_u8, show (((s.getD i 0).toNat : Nat) : Int) % 256 = ((s.getD i 0).toNat : Int) by omega]
  · rename_i h0 h1
    have hlt : i < s.length := by rw [str_size] at h0; exact h0
    exact bl_is (all_out hlt (by simpa using hb)).symm
  · rename_i h0 h1
    have hlt : i < s.length := by rw [str_size] at h0; exact h0
    obtain ⟨e1, _, hl⟩ := dec_low hlt h1
    refine ⟨i + 1, ⟨by omega, fun j hj => ?_⟩, by omega, Fits_mk (Le_cons rfl (Le_cons rfl (Le_cons rfl Le_nil))) (Pre_cons rfl (by rw [e1]) Pre_nil) rfl rfl⟩
    rcases Nat.lt_or_ge j i with h | h
    · exact hi2 j h
    · rw [show j = i by omega]; simpa using hb
  · have hge : ¬ i < s.length := by rw [str_size] at hb; exact hb
    exact bl_is (all_in fun j hj => hi2 j (by omega)).symm

end Go.Proofs.YtbgomheagkcmaaaDoor
/- The token statements: the document's while; whether a text is a word of the language. -/
namespace Go.Proofs.YtbgomheagkcmaaaDoor
open Go.Sx
attribute [local irreducible] hasBody Program.underlying Ylds astep alex alexE alexD awp PCall FCall RCall MCall QCall athen ablock ajump rpost fpost mpost

def btw (lo hi : Int) (c : UInt8) : Bool := decide (lo ≤ isK c ∧ isK c ≤ hi)
theorem drop_getD (s : List UInt8) (a j : Nat) : (s.drop a).getD j 0 = s.getD (a + j) 0 := by
  rw [List.getD_eq_getElem?_getD, List.getD_eq_getElem?_getD, List.getElem?_drop]

theorem while_ok (s : List UInt8) (at_ : Nat) (lo hi : Int) (hs : s.length ≤ 1000000) (ha : at_ ≤ s.length) :
    PCall Tryd.prog 43 [str s, i64 (at_ : Int), i64 lo, i64 hi] (i64 ((at_ + spanF (btw lo hi) (s.drop at_) : Nat) : Int)) := by
  refine pcall_of Tryd.func43 rfl Tryd.ntmps43 Tryd.results43 rfl ?_
  intro wb St0
  repeat' first
    | refine en_n ?_
    | refine awp_seq ?_
    | refine awp_region ?_
    | refine alex_nil ?_
    | refine w0 ?_
    | apply ay (hd := rfl)
    | (apply Y_assign_d; exact rfl)
    | refine awp_block ?_
  refine awp_loopF (α := Nat) (fun i => at_ + i ≤ s.length ∧ ∀ j, j < i → btw lo hi ((s.drop at_).getD j 0) = true) (fun i => [(0, .d (str s)), (1, .d (i64 ((at_ + i : Nat) : Int))), (2, .d (i64 lo)), (3, .d (i64 hi))]) (fun _ => []) (fun i => s.length - (at_ + i)) 0 ⟨by omega, by omega⟩
      (Fits_mk (Le_cons rfl (Le_cons rfl (Le_cons rfl (Le_cons rfl Le_nil)))) Pre_nil rfl rfl) ?_
  rintro i ⟨hi1, hi2⟩
  repeat' first
    | refine en_n ?_
    | refine awp_seq ?_
    | refine awp_region ?_
    | refine alex_nil ?_
    | refine w0 ?_
    | (apply k1u (hd := rfl); exact rfl; exact rfl)
    | (apply Y_len_l; exact rfl; with_reducible exact ustr)
    | (apply Y_idx_l; exact rfl; exact rfl; with_reducible exact ustr; (first | assumption | omega))
    | (apply Y_call (hb := hb_is) (hc := is_ok (s.getD (at_ + i) 0)))
    | apply ay (hd := rfl)
    | (apply Y_move_d; exact rfl)
    | (apply Y_assign_d; exact rfl)
    | (apply Y_lss; exact rfl; exact rfl)
    | (apply Y_leq; exact rfl; exact rfl)
    | (apply Y_geq; exact rfl; exact rfl)
    | (apply Y_add; exact rfl; exact rfl)
    | (apply Y_pick_t; exact rfl; exact rfl)
    | (apply Y_pick_f; exact rfl; exact rfl)
    | (apply w1; exact rfl; exact rfl)
    | (apply gD; exact rfl; exact rfl; (intro hb); rotate_left; (intro hb); rotate_right)
    | (apply awp_condD; exact rfl; (intro hb); rotate_left; (intro hb); rotate_right)
    | (apply awp_condF; exact rfl)
    | refine awp_block ?_
    | refine awp_skip ?_
    | refine awp_ret ?_
    | refine awp_exit ?_
    | refine en_e ?_
    | refine eb_n ?_
    | refine eb_e ?_
    | refine rpost_ret ?_
    | (apply res1; exact rfl)
    | exact CoL_nil
    | refine CoL_d rfl ?_
  · omega
  · rename_i h1 h2
    have hb : btw lo hi ((s.drop at_).getD i 0) = true := by
      rw [drop_getD, btw, decide_eq_true_eq]; exact ⟨h2, hb⟩
    refine ⟨i + 1, ⟨by omega, fun j hj => ?_⟩, by omega, Fits_mk (Le_cons rfl (Le_d rfl (by rw [Int.natCast_add, Int.natCast_add, Int.natCast_add, Int.add_assoc]; rfl) (Le_cons rfl (Le_cons rfl Le_nil)))) Pre_nil rfl rfl⟩
    rcases Nat.lt_or_ge j i with h | h
    · exact hi2 j h
    · rw [show j = i by omega]; exact hb
  · rename_i h1 h2
    have hb : btw lo hi ((s.drop at_).getD i 0) = false := by
      rw [drop_getD, btw, decide_eq_false_iff_not]; exact fun h => hb h.2
    rw [spanF_is _ _ i (by rw [List.length_drop]; omega) hi2 (.inr hb)]
  · rename_i h1
    have hb : btw lo hi ((s.drop at_).getD i 0) = false := by
      rw [drop_getD, btw, decide_eq_false_iff_not]; exact fun h => hb h.1
    rw [spanF_is _ _ i (by rw [List.length_drop]; omega) hi2 (.inr hb)]
  · rw [spanF_is _ _ i (by rw [List.length_drop]; omega) hi2 (.inl (by rw [List.length_drop]; omega))]
end Go.Proofs.YtbgomheagkcmaaaDoor
/- The token statements: whether a text is a word of the language. -/
namespace Go.Proofs.YtbgomheagkcmaaaDoor
open Go.Sx
attribute [local irreducible] hasBody Program.underlying Ylds astep alex alexE alexD awp PCall FCall RCall MCall QCall athen ablock ajump rpost fpost mpost

def idxT (A : List (List UInt8)) (b : List UInt8) : Int := if b ∈ A then ((A.takeWhile fun x => decide (x ≠ b)).length : Int) else -1
theorem idxT_hit {A : List (List UInt8)} {b : List UInt8} {i : Nat} (h0 : ∀ j, j < i → A[j]? ≠ some b) (h1 : A[i]? = some b) : idxT A b = i := by
  have hm : b ∈ A := List.mem_of_getElem? h1
  rw [idxT, if_pos hm]
  congr 1
  induction A generalizing i with
  | nil => simp at h1
  | cons x r ih =>
    cases i with
    | zero => simp at h1; simp [List.takeWhile, h1]
    | succ i =>
      have hx : x ≠ b := by have := h0 0 (by omega); simpa using this
      rw [List.takeWhile_cons, if_pos (by simpa using hx), List.length_cons]
      rw [ih (i := i) (fun j hj => by have := h0 (j + 1) (by omega); simpa using this) (by simpa using h1) (List.mem_of_getElem? (by simpa using h1))]
theorem idxT_miss {A : List (List UInt8)} {b : List UInt8} (h : b ∉ A) : idxT A b = -1 := if_neg h
theorem str_inj {a b : List UInt8} (h : (⟨a.toArray⟩ : ByteArray) = ⟨b.toArray⟩) : a = b := by
  have := ByteArray.ext_iff.1 h
  simpa using this
theorem strs_len (L : List (List UInt8)) : ((L.map str).length : Int) = L.length := by simp

theorem IndexT_ok (A : List (List UInt8)) (b : List UInt8) (hL : A.length ≤ 2000000) : PCall Tryd.prog 67 [strs A, str b] (i64 (idxT A b)) := by
  refine pcall_of Tryd.func67 rfl Tryd.ntmps67 Tryd.results67 rfl ?_
  intro wb St0
  repeat' first
    | refine en_n ?_
    | refine awp_seq ?_
    | refine awp_region ?_
    | refine alex_nil ?_
    | refine w0 ?_
    | apply ay (hd := rfl)
    | (apply Y_move_d; exact rfl)
    | (apply Y_assign_d; exact rfl)
    | (apply Y_len_m; exact rfl; exact (by first | with_reducible exact et_toks | with_reducible exact et_strs | with_reducible exact et_u8s))
    | refine awp_block ?_
  refine awp_loopF (α := Nat) (fun i => i ≤ A.length ∧ ∀ j, j < i → A[j]? ≠ some b) (fun i => [(0, .d (strs A)), (1, .d (str b)), (7, .d (i64 (A.length : Int))), (8, .d (i64 (i : Int)))]) (fun _ => []) (fun i => A.length - i) 0 ⟨Nat.zero_le _, by omega⟩
      (Fits_mk (Le_cons rfl (Le_cons rfl (Le_d rfl (by first | rfl | simp) (Le_cons rfl Le_nil)))) Pre_nil rfl rfl) ?_
  rintro i ⟨hi1, hi2⟩
  repeat' first
    | refine en_n ?_
    | refine awp_seq ?_
    | refine awp_region ?_
    | refine alex_nil ?_
    | refine w0 ?_
    | (apply Y_eqs; exact rfl; exact rfl)
    | (apply aI (hd := rfl); (first | exact Co_dd rfl | exact Co_bb rfl rfl rfl | exact Co_nn rfl); exact rfl; exact (by first | with_reducible exact es_toks | with_reducible exact es_strs | with_reducible exact es_u8s); exact fun _ => rfl; rotate_left; intro v hv; rotate_right)
    | apply ay (hd := rfl)
    | (apply Y_move_d; exact rfl)
    | (apply Y_assign_d; exact rfl)
    | (apply Y_load_r1; exact rfl; exact (by first | with_reducible exact tc_str | with_reducible exact tc_int | with_reducible exact tc_kind | with_reducible exact tc_tok | with_reducible exact tc_u8s | with_reducible exact tc_toks | with_reducible exact tc_strs | with_reducible exact tc_bool | with_reducible exact tc_err | with_reducible exact tc_i64))
    | (apply Y_lss; exact rfl; exact rfl)
    | (apply Y_add; exact rfl; exact rfl)
    | (apply awp_condD; exact rfl; (intro hb); rotate_left; (intro hb); rotate_right)
    | refine awp_block ?_
    | refine awp_skip ?_
    | refine awp_ret ?_
    | refine awp_exit ?_
    | refine en_r ?_
    | refine en_e ?_
    | refine eb_n ?_
    | refine eb_r ?_
    | refine eb_e ?_
    | refine rpost_ret ?_
    | (apply res1; exact rfl)
  · omega
  · subst hb; rw [idxT_hit hi2 hv]
  · omega
  · refine ⟨i + 1, ⟨by omega, fun j hj => ?_⟩, by omega, Fits_mk (Le_cons rfl (Le_cons rfl (Le_cons rfl (Le_cons rfl Le_nil)))) Pre_nil rfl rfl⟩
    rcases Nat.lt_or_ge j i with h1 | h1
    · exact hi2 j h1
    · rw [show j = i by omega]; intro h2; exact hb (Option.some.inj (h2.symm.trans hv))
  · rw [idxT_miss]; intro h1
    obtain ⟨j, hj, h2⟩ := List.getElem_of_mem h1
    exact hi2 j (by omega) (by rw [List.getElem?_eq_getElem hj, h2])

theorem ContainsT_ok (A : List (List UInt8)) (b : List UInt8) (hL : A.length ≤ 2000000) : PCall Tryd.prog 47 [strs A, str b] (bl (A.contains b)) := by
  refine pcall_of Tryd.func47 rfl Tryd.ntmps47 Tryd.results47 rfl ?_
  intro wb St0
  repeat' first
    | refine en_n ?_
    | refine awp_seq ?_
    | refine awp_region ?_
    | refine alex_nil ?_
    | refine w0 ?_
    | (apply Y_call (hb := hb_Index) (hc := IndexT_ok A b hL))
    | apply ay (hd := rfl)
    | (apply Y_move_d; exact rfl)
    | (apply Y_assign_d; exact rfl)
    | (apply Y_geq; exact rfl; exact rfl)
    | refine awp_ret ?_
    | refine rpost_ret ?_
    | (apply res1; exact rfl)
    | exact CoL_nil
    | refine CoL_d rfl ?_
  refine bl_is ?_
  by_cases h : b ∈ A
  · rw [List.contains_iff_mem.2 h, idxT, if_pos h]; exact decide_eq_true (by omega)
  · rw [show A.contains b = false by simpa using h, idxT_miss h]; rfl

theorem words_ok : PCall Tryd.prog 48 [] (strs kws) := by
  refine pcall_of Tryd.func48 rfl Tryd.ntmps48 Tryd.results48 rfl ?_
  intro wb St0
  repeat' first
    | refine en_n ?_
    | refine awp_seq ?_
    | refine awp_region ?_
    | refine alex_nil ?_
    | refine w0 ?_
    | (apply Y_call (hb := hb_Fields) (hc := Fields_ok))
    | apply ay (hd := rfl)
    | (apply Y_assign_d; exact rfl)
    | (apply Y_assign_nil; exact rfl)
    | refine awp_ret ?_
    | refine rpost_ret ?_
    | (apply res1; exact rfl)
    | exact CoL_nil
    | refine CoL_d rfl ?_
  all_goals rfl
theorem Key_ok (s : List UInt8) : PCall Tryd.prog 24 [str s] (bl (isKey s)) := by
  refine pcall_of Tryd.func24 rfl Tryd.ntmps24 Tryd.results24 rfl ?_
  intro wb St0
  repeat' first
    | refine en_n ?_
    | refine awp_seq ?_
    | refine awp_region ?_
    | refine alex_nil ?_
    | refine w0 ?_
    | (apply Y_call (hb := hb_words) (hc := words_ok))
    | (apply Y_call (hb := hb_Contains) (hc := ContainsT_ok kws s (by decide)))
    | apply ay (hd := rfl)
    | (apply Y_move_d; exact rfl)
    | (apply Y_assign_d; exact rfl)
    | refine awp_ret ?_
    | refine rpost_ret ?_
    | (apply res1; exact rfl)
    | exact CoL_nil
    | refine CoL_d rfl ?_
  all_goals rfl
theorem CoL_strs {η : List Ob} {σ : Sl} : ∀ L : List (List UInt8), CoL η σ (L.map fun l => Operand.const (.string ⟨l.toArray⟩)) (L.map str)
  | [] => CoL_nil
  | _ :: r => CoL_d rfl (CoL_strs r)
theorem rwords_ok : PCall Tryd.prog 49 [] (strs kws) := by
  refine pcall_of Tryd.func49 rfl Tryd.ntmps49 Tryd.results49 rfl ?_
  intro wb St0
  repeat' first
    | refine en_n ?_
    | refine awp_seq ?_
    | refine awp_region ?_
    | refine alex_nil ?_
    | refine w0 ?_
    | (refine Y_lit (sz := 1) (ds := kws.map str) (xs := kws.map fun l => Operand.const (.string ⟨l.toArray⟩)) ety_strs es_strs zs_str rfl (by decide) rfl rfl (CoL_strs kws) (by decide) rfl)
    | apply ay (hd := rfl)
    | (apply Y_assign_d; exact rfl)
    | (apply Y_assign_nil; exact rfl)
    | refine awp_ret ?_
    | refine rpost_ret ?_
    | (apply res1; exact rfl)
  all_goals rfl
theorem rKey_ok (s : List UInt8) : PCall Tryd.prog 25 [str s] (bl (isKey s)) := by
  refine pcall_of Tryd.func25 rfl Tryd.ntmps25 Tryd.results25 rfl ?_
  intro wb St0
  repeat' first
    | refine en_n ?_
    | refine awp_seq ?_
    | refine awp_region ?_
    | refine alex_nil ?_
    | refine w0 ?_
    | (apply Y_call (hb := hb_rwords) (hc := rwords_ok))
    | apply ay (hd := rfl)
    | (apply Y_assign_d; exact rfl)
    | refine awp_block ?_
    | exact CoL_nil
  refine awp_loopF (α := Nat) (fun i => i ≤ kws.length ∧ ∀ j, j < i → kws[j]? ≠ some s) (fun i => [(0, .d (str s)), (3, .d (strs kws)), (4, .d (i64 (i : Int)))]) (fun _ => []) (fun i => kws.length - i) 0 ⟨Nat.zero_le _, by omega⟩
      (Fits_mk (Le_cons rfl (Le_cons rfl (Le_cons rfl Le_nil))) Pre_nil rfl rfl) ?_
  rintro i ⟨hi1, hi2⟩
  have hk : kws.length = 25 := rfl
  repeat' first
    | refine en_n ?_
    | refine awp_seq ?_
    | refine awp_region ?_
    | refine alex_nil ?_
    | refine w0 ?_
    | (apply Y_eqs; exact rfl; exact rfl)
    | (apply aI (hd := rfl); (first | exact Co_dd rfl | exact Co_bb rfl rfl rfl | exact Co_nn rfl); exact rfl; exact (by first | with_reducible exact es_toks | with_reducible exact es_strs | with_reducible exact es_u8s); exact fun _ => rfl; rotate_left; intro v hv; rotate_right)
    | apply ay (hd := rfl)
    | (apply Y_move_d; exact rfl)
    | (apply Y_assign_d; exact rfl)
    | (apply Y_load_r1; exact rfl; exact (by first | with_reducible exact tc_str | with_reducible exact tc_int | with_reducible exact tc_kind | with_reducible exact tc_tok | with_reducible exact tc_u8s | with_reducible exact tc_toks | with_reducible exact tc_strs | with_reducible exact tc_bool | with_reducible exact tc_err | with_reducible exact tc_i64))
    | (apply Y_len_m; exact rfl; exact (by first | with_reducible exact et_toks | with_reducible exact et_strs | with_reducible exact et_u8s))
    | (apply Y_lss; exact rfl; exact rfl)
    | (apply Y_add; exact rfl; exact rfl)
    | (apply awp_condD; exact rfl; (intro hb); rotate_left; (intro hb); rotate_right)
    | refine awp_block ?_
    | refine awp_skip ?_
    | refine awp_ret ?_
    | refine awp_exit ?_
    | refine en_r ?_
    | refine en_e ?_
    | refine eb_n ?_
    | refine eb_r ?_
    | refine eb_e ?_
    | refine rpost_ret ?_
    | (apply res1; exact rfl)
  · omega
  · subst hb; exact bl_is (List.contains_iff_mem.2 (List.mem_of_getElem? hv)).symm
  · omega
  · refine ⟨i + 1, ⟨by omega, fun j hj => ?_⟩, by omega, Fits_mk (Le_cons rfl (Le_cons rfl (Le_cons rfl Le_nil))) Pre_nil rfl rfl⟩
    rcases Nat.lt_or_ge j i with h1 | h1
    · exact hi2 j h1
    · rw [show j = i by omega]; intro h2; exact hb (Option.some.inj (hv.symm.trans h2))
  · refine bl_is ?_
    symm; rw [isKey, ← Bool.not_eq_true]; intro h1
    obtain ⟨j, hj, h2⟩ := List.getElem_of_mem (List.contains_iff_mem.1 h1)
    exact hi2 j (by omega) (by rw [List.getElem?_eq_getElem hj, h2])
end Go.Proofs.YtbgomheagkcmaaaDoor
/- Numbers: sums, differences, products. -/
namespace Go.Proofs.YtbgomheagkcmaaaDoor
open Go.Sx
attribute [local irreducible] hasBody Program.underlying Ylds astep alex alexE alexD awp PCall FCall RCall athen ablock ajump rpost fpost

theorem i64_eq {a b : Int} (h : a = b) : D.val (.int .i64 a) = i64 b := by rw [h]
theorem u64_eq {a b : Int} (h : a = b) : D.val (.int .u64 a) = u64 b := by rw [h]
theorem tw1 : (2 : Int) ^ min (Int.toNat 1) IntKind.u64.bits = 2 := by decide
theorem tw2 : (2 : Int) ^ min (Int.toNat 1) IntKind.i64.bits = 2 := by decide

theorem wWrap_ok (n : Int) : PCall Tryd.prog 40 [i64 n] (i64 (W n)) := by
  refine pcall_of Tryd.func40 rfl Tryd.ntmps40 Tryd.results40 rfl ?_
  intro wb St0
  repeat' first
    | refine en_n ?_
    | refine awp_seq ?_
    | refine awp_region ?_
    | refine alex_nil ?_
    | refine w0 ?_
    | (apply Y_conv; exact rfl; (first | with_reducible exact si64 | with_reducible exact su64 | with_reducible exact su8 | with_reducible exact si32); (first | with_reducible exact ui64 | with_reducible exact uu64 | with_reducible exact uu8 | with_reducible exact ui32))
    | (apply Y_shl; exact rfl; exact rfl; exact (by decide))
    | (apply Y_shr; exact rfl; exact rfl; exact (by decide))
    | apply ay (hd := rfl)
    | (apply Y_move_d; exact rfl)
    | (apply Y_assign_d; exact rfl)
    | refine awp_ret ?_
    | refine rpost_ret ?_
    | (apply res1; exact rfl)
  refine i64_eq ?_
  rw [tw1, tw2, Int.fdiv_eq_ediv_of_nonneg _ (by decide), wrap_u64, wrap_u64, wrap_i64, W]
  omega

theorem back_ok (n : Int) (h : 0 ≤ n) : PCall Tryd.prog 63 [u64 n] (i64 (W n)) := by
  refine pcall_of Tryd.func63 rfl Tryd.ntmps63 Tryd.results63 rfl ?_
  intro wb St0
  have e : n.tmod 9223372036854775808 = n % 9223372036854775808 := Int.tmod_eq_emod_of_nonneg h
  repeat' first
    | refine en_n ?_
    | refine awp_seq ?_
    | refine awp_region ?_
    | refine alex_nil ?_
    | refine w0 ?_
    | (apply Y_conv; exact rfl; (first | with_reducible exact si64 | with_reducible exact su64 | with_reducible exact su8 | with_reducible exact si32); (first | with_reducible exact ui64 | with_reducible exact uu64 | with_reducible exact uu8 | with_reducible exact ui32))
    | (apply Y_subw (k := .u64); exact rfl; exact rfl)
    | (apply Y_subw (k := .i64); exact rfl; exact rfl)
    | (apply Y_rem; exact rfl; exact rfl; exact (by decide))
    | apply ay (hd := rfl)
    | (apply Y_move_d; exact rfl)
    | (apply Y_assign_d; exact rfl)
    | (apply Y_geq; exact rfl; exact rfl)
    | (apply awp_condD; exact rfl; (intro hb); rotate_left; (intro hb); rotate_right)
    | refine awp_skip ?_
    | refine awp_ret ?_
    | refine en_r ?_
    | refine rpost_ret ?_
    | (apply res1; exact rfl)
  · refine i64_eq ?_
    rw [e] at hb ⊢
    rw [wrap_u64, wrap_i64, wrap_i64, W]
    omega
  · refine i64_eq ?_
    rw [e] at hb ⊢
    rw [wrap_i64, W]
    omega

theorem rWrap_ok (n : Int) : PCall Tryd.prog 44 [i64 n] (i64 (W n)) := by
  refine pcall_of Tryd.func44 rfl Tryd.ntmps44 Tryd.results44 rfl ?_
  intro wb St0
  repeat' first
    | refine en_n ?_
    | refine awp_seq ?_
    | refine awp_region ?_
    | refine alex_nil ?_
    | refine w0 ?_
    | (apply Y_conv; exact rfl; (first | with_reducible exact si64 | with_reducible exact su64 | with_reducible exact su8 | with_reducible exact si32); (first | with_reducible exact ui64 | with_reducible exact uu64 | with_reducible exact uu8 | with_reducible exact ui32))
    | (refine Y_call hb_back (back_ok _ (by rw [wrap_u64]; omega)) (CoL_d rfl CoL_nil))
    | apply ay (hd := rfl)
    | (apply Y_move_d; exact rfl)
    | (apply Y_assign_d; exact rfl)
    | refine awp_ret ?_
    | refine rpost_ret ?_
    | (apply res1; exact rfl)
  refine i64_eq ?_
  rw [wrap_u64, W, W]
  omega

theorem take_sum {L : List Int} {i : Nat} {v : Int} (h : L[i]? = some v) : (L.take (i + 1)).sum = (L.take i).sum + v := by
  rw [List.take_add_one, h, List.sum_append]; simp

theorem size_ok (n : Int) (h : -4611686018427387904 ≤ n ∧ n ≤ 4611686018427387903) : PCall Tryd.prog 66 [i64 n] (u64 (n.natAbs : Int)) := by
  refine pcall_of Tryd.func66 rfl Tryd.ntmps66 Tryd.results66 rfl ?_
  intro wb St0
  repeat' first
    | refine en_n ?_
    | refine awp_seq ?_
    | refine awp_region ?_
    | refine alex_nil ?_
    | refine w0 ?_
    | (apply Y_conv; exact rfl; (first | with_reducible exact si64 | with_reducible exact su64 | with_reducible exact su8 | with_reducible exact si32); (first | with_reducible exact ui64 | with_reducible exact uu64 | with_reducible exact uu8 | with_reducible exact ui32))
    | (apply Y_neg; exact rfl)
    | apply ay (hd := rfl)
    | (apply Y_move_d; exact rfl)
    | (apply Y_assign_d; exact rfl)
    | (apply Y_lss; exact rfl; exact rfl)
    | (apply awp_condD; exact rfl; (intro hb); rotate_left; (intro hb); rotate_right)
    | refine awp_skip ?_
    | refine awp_ret ?_
    | refine en_r ?_
    | refine rpost_ret ?_
    | (apply res1; exact rfl)
  · refine u64_eq ?_
    rw [wrap_u64, wrap_i64]; omega
  · refine u64_eq ?_
    rw [wrap_u64]; omega

theorem W_u64 (x : Int) : W (IntKind.u64.wrap x) = W x := by rw [wrap_u64, W, W]; omega
end Go.Proofs.YtbgomheagkcmaaaDoor
/- Numbers: numbers as texts. -/
namespace Go.Proofs.YtbgomheagkcmaaaDoor
open Go.Sx
attribute [local irreducible] hasBody Program.underlying Ylds astep alex alexE alexD awp PCall FCall RCall athen ablock ajump rpost fpost

/-! ### digits -/
theorem digit_ofNat {k : Nat} (h : k < 10) : (UInt8.ofNat (48 + k)).toNat = 48 + k := by
  rw [UInt8.toNat_ofNat']; omega
theorem digs_mem (u : Nat) : ∀ d ∈ Lib.decDigits u, 48 ≤ d.toNat ∧ d.toNat ≤ 57 := by
  induction u using Nat.strongRecOn with
  | _ u ih =>
    intro d hd
    rw [Lib.decDigits] at hd
    split at hd
    · rename_i h
      rw [List.mem_singleton] at hd
      rw [hd, digit_ofNat h]; omega
    · rename_i h
      rcases List.mem_append.1 hd with hd | hd
      · exact ih (u / 10) (by omega) d hd
      · rw [List.mem_singleton] at hd
        rw [hd, digit_ofNat (Nat.mod_lt _ (by decide))]; omega
theorem digs_ne (u : Nat) : Lib.decDigits u ≠ [] := by
  rw [Lib.decDigits]; split <;> simp
theorem digs_cons (u : Nat) : ∃ c r, Lib.decDigits u = c :: r ∧ 48 ≤ c.toNat ∧ c.toNat ≤ 57 := by
  cases h : Lib.decDigits u with
  | nil => exact absurd h (digs_ne u)
  | cons c r => exact ⟨c, r, rfl, digs_mem u c (by rw [h]; simp)⟩
theorem digs_len (u : Nat) (h : u < 18446744073709551616) : (Lib.decDigits u).length ≤ 20 := by
  rw [Lib.decDigits_length]; exact Lib.nDigits_le20 u h

/-- the text of a number of the language -/
def shw (n : Int) : List UInt8 := if n < 0 then 126 :: Lib.decDigits n.natAbs else Lib.decDigits n.natAbs

theorem shw_eq (n : Int) : Lib.replace (Lib.itoa n) [45] [126] 1 = shw n := by
  rw [Lib.replace, if_neg (by decide)]
  unfold Lib.itoa shw
  split
  · rename_i h
    have h1 : Lib.replaceNum (45 :: Lib.decDigits n.natAbs) [45] 1 = 1 := by
      rw [Lib.replaceNum, Lib.count_cons_eq, if_neg (by omega)]; rfl
    rw [h1, Lib.replaceK_hit [45] [126] 0 _ 0 (by rw [Lib.index]; rfl)]
    simp [Lib.replaceK]
  · rename_i h
    have h2 : Lib.count (Lib.decDigits n.toNat) [45] = 0 := by
      rw [Lib.count_one, List.count_eq_zero]
      intro hm
      have := digs_mem _ _ hm
      exact absurd this.1 (by decide)
    have h1 : Lib.replaceNum (Lib.decDigits n.toNat) [45] 1 = 0 := by
      rw [Lib.replaceNum, h2, if_pos (by omega)]
    rw [h1, Lib.replaceK, show n.toNat = n.natAbs by omega]
theorem shw_len (n : Int) (h : -9223372036854775808 ≤ n ∧ n ≤ 9223372036854775807) : (shw n).length ≤ 21 := by
  have := digs_len n.natAbs (by omega)
  unfold shw; split
  · rw [List.length_cons]; omega
  · omega

theorem str_eq {a b : List UInt8} (h : a = b) : str a = str b := by rw [h]

theorem wShow_ok (n : Int) : PCall Tryd.prog 45 [i64 n] (str (shw (W n))) := by
  have hw := W_bd n
  refine pcall_of Tryd.func45 rfl Tryd.ntmps45 Tryd.results45 rfl ?_
  intro wb St0
  repeat' first
    | refine en_n ?_
    | refine awp_seq ?_
    | refine awp_region ?_
    | refine alex_nil ?_
    | refine w0 ?_
    | (refine Y_call hb_wWrap (wWrap_ok _) (CoL_d rfl CoL_nil))
    | (refine Y_call hb_FormatInt (FormatInt_ok (W n) (by omega) (by omega)) (CoL_d rfl (CoL_d rfl CoL_nil)))
    | (refine Y_call hb_Replace (Replace_ok (Lib.itoa (W n)) [45] [126] 1 (by decide) (Nat.le_trans (Lib.itoa_length_le (W n) (by omega) (by omega)) (by decide)) (by decide)) (CoL_d rfl (CoL_d rfl (CoL_d rfl (CoL_d rfl CoL_nil)))))
    | apply ay (hd := rfl)
    | (apply Y_move_d; exact rfl)
    | (apply Y_assign_d; exact rfl)
    | refine awp_ret ?_
    | refine rpost_ret ?_
    | (apply res1; exact rfl)
  exact str_eq (shw_eq _)

/-! ### the document's text -/
theorem show_step (U m : Nat) (s : List UInt8) (hi : (s = [] ∧ m = U) ∨ (s ≠ [] ∧ m = 0 ∧ s = Lib.decDigits U) ∨ (s ≠ [] ∧ 0 < m ∧ m ≤ U ∧ Lib.decDigits m ++ s = Lib.decDigits U)) (hc : s = [] ∨ 0 < m) :
    (UInt8.ofNat (48 + m % 10) :: s ≠ [] ∧ m / 10 = 0 ∧ UInt8.ofNat (48 + m % 10) :: s = Lib.decDigits U) ∨
      (UInt8.ofNat (48 + m % 10) :: s ≠ [] ∧ 0 < m / 10 ∧ m / 10 ≤ U ∧ Lib.decDigits (m / 10) ++ UInt8.ofNat (48 + m % 10) :: s = Lib.decDigits U) := by
  have e : Lib.decDigits m ++ s = Lib.decDigits U ∧ m ≤ U := by
    rcases hi with ⟨h1, h2⟩ | ⟨h1, h2, _⟩ | ⟨_, _, h3, h4⟩
    · rw [h1, h2]; simp
    · rcases hc with hc | hc
      · exact absurd hc h1
      · omega
    · exact ⟨h4, h3⟩
  obtain ⟨e, hm⟩ := e
  by_cases h10 : m < 10
  · rw [Lib.decDigits, dif_pos h10] at e
    refine .inl ⟨by simp, by omega, ?_⟩
    rw [show m % 10 = m by omega, ← e]; rfl
  · rw [Lib.decDigits, dif_neg h10] at e
    refine .inr ⟨by simp, by omega, by omega, ?_⟩
    rw [← e, List.append_assoc]; rfl
def smu (p : Nat × List UInt8) : Nat := match p.2 with | [] => p.1 + 1 | _ => p.1
theorem show_mu (m : Nat) (c : UInt8) (s : List UInt8) (hc : s = [] ∨ 0 < m) : smu (m / 10, c :: s) < smu (m, s) := by
  cases s with
  | nil => show m / 10 < m + 1; omega
  | cons x r =>
    show m / 10 < m
    rcases hc with hc | hc
    · cases hc
    · omega
theorem show_byte (m : Nat) : IntKind.u8.wrap (IntKind.u64.wrap (48 + (m : Int).tmod 10)) = ((48 + m % 10 : Nat) : Int) := by
  rw [show (m : Int).tmod 10 = ((m % 10 : Nat) : Int) from rfl, wrap_u8, wrap_u64]; omega
theorem show_quo (m : Nat) (h : m < 18446744073709551616) : IntKind.u64.wrap ((m : Int).tdiv 10) = ((m / 10 : Nat) : Int) := by
  rw [show (m : Int).tdiv 10 = ((m / 10 : Nat) : Int) from rfl, wrap_u64]; omega

theorem rShow_ok (n : Int) : PCall Tryd.prog 46 [i64 n] (str (shw (W n))) := by
  have hw := W_bd n
  refine pcall_of Tryd.func46 rfl Tryd.ntmps46 Tryd.results46 rfl ?_
  intro wb St0
  have hlen := digs_len (W n).natAbs (by omega)
  repeat' first
    | refine en_n ?_
    | refine awp_seq ?_
    | refine awp_region ?_
    | refine alex_nil ?_
    | refine w0 ?_
    | (refine Y_call hb_rWrap (rWrap_ok _) (CoL_d rfl CoL_nil))
    | (refine Y_call hb_size (size_ok _ (W_bd _)) (CoL_d rfl CoL_nil))
    | apply ay (hd := rfl)
    | (apply Y_move_d; exact rfl)
    | (apply Y_assign_d; exact rfl)
    | refine awp_block ?_
  refine awp_loopF (α := Nat × List UInt8) (fun p => (p.2 = [] ∧ p.1 = (W n).natAbs) ∨ (p.2 ≠ [] ∧ p.1 = 0 ∧ p.2 = Lib.decDigits (W n).natAbs) ∨ (p.2 ≠ [] ∧ 0 < p.1 ∧ p.1 ≤ (W n).natAbs ∧ Lib.decDigits p.1 ++ p.2 = Lib.decDigits (W n).natAbs))
      (fun p => [(0, .d (i64 (W n))), (3, .d (str p.2)), (4, .d (u64 (p.1 : Int)))]) (fun _ => []) smu ((W n).natAbs, []) (.inl ⟨rfl, rfl⟩)
      (Fits_mk (Le_cons rfl (Le_cons rfl (Le_cons rfl Le_nil))) Pre_nil rfl rfl) ?_
  rintro ⟨m, s⟩ hi
  dsimp only at hi ⊢
  have hmb : m ≤ (W n).natAbs := by omega
  have hsl : s.length ≤ 20 := by
    rcases hi with ⟨h1, _⟩ | ⟨_, _, h1⟩ | ⟨_, _, _, h1⟩
    · rw [h1]; simp
    · rw [h1]; exact hlen
    · have := congrArg List.length h1
      rw [List.length_append] at this; omega
  repeat' first
    | refine en_n ?_
    | refine awp_seq ?_
    | refine awp_region ?_
    | refine alex_nil ?_
    | refine w0 ?_
    | (apply Y_eqs; exact rfl; exact rfl)
    | (apply Y_b2s (ns := [_]); exact rfl; with_reducible exact uu8s; with_reducible exact uu8; with_reducible exact ustr; exact (by simp))
    | (apply Y_cat_l; exact rfl; exact rfl; exact (by simp; omega))
    | (apply Y_rem; exact rfl; exact rfl; exact (by decide))
    | (apply Y_quo; exact rfl; exact rfl; exact (by decide))
    | (apply Y_conv; exact rfl; (first | with_reducible exact si64 | with_reducible exact su64 | with_reducible exact su8 | with_reducible exact si32); (first | with_reducible exact ui64 | with_reducible exact uu64 | with_reducible exact uu8 | with_reducible exact ui32))
    | (apply Y_addw (k := .u64); exact rfl; exact rfl)
    | apply ay (hd := rfl)
    | (apply Y_move_d; exact rfl)
    | (apply Y_assign_d; exact rfl)
    | (apply Y_lss; exact rfl; exact rfl)
    | (apply Y_gtr; exact rfl; exact rfl)
    | (apply Y_pick_t; exact rfl; exact rfl)
    | (apply Y_pick_f; exact rfl; exact rfl)
    | (apply Y_lit1; exact (by first | with_reducible exact ety_u8s); exact (by first | with_reducible exact es_u8s); exact (by first | with_reducible exact zs_i64 | with_reducible exact zs_u8); exact rfl; exact rfl; (first | exact CoL_d rfl CoL_nil | exact CoL_b rfl rfl rfl CoL_nil | exact CoL_n rfl CoL_nil); exact rfl)
    | (apply w1; exact rfl; exact rfl)
    | (apply k0 (hd := rfl); exact rfl; exact rfl)
    | (apply gD; exact rfl; exact rfl; (intro hb); rotate_left; (intro hb); rotate_right)
    | (apply awp_condD; exact rfl; (intro hb); rotate_left; (intro hb); rotate_right)
    | (apply awp_condT; exact rfl)
    | refine awp_block ?_
    | refine awp_skip ?_
    | refine awp_ret ?_
    | refine awp_exit ?_
    | refine en_r ?_
    | refine en_e ?_
    | refine eb_n ?_
    | refine eb_e ?_
    | refine rpost_ret ?_
    | (apply res1; exact rfl)
  · refine ⟨(m / 10, UInt8.ofNat (48 + m % 10) :: s), .inr (show_step _ m s hi (.inl hb)), show_mu m _ s (.inl hb), Fits_mk (Le_cons rfl (Le_d rfl (str_eq ?_) (Le_d rfl (u64_eq (show_quo m (by omega))).symm Le_nil))) Pre_nil rfl rfl⟩
    rw [show_byte]; rfl
  · have hm : 0 < m := by omega
    refine ⟨(m / 10, UInt8.ofNat (48 + m % 10) :: s), .inr (show_step _ m s hi (.inr hm)), show_mu m _ s (.inr hm), Fits_mk (Le_cons rfl (Le_d rfl (str_eq ?_) (Le_d rfl (u64_eq (show_quo m (by omega))).symm Le_nil))) Pre_nil rfl rfl⟩
    rw [show_byte]; rfl
  · rename_i h1 h2
    have e : s = Lib.decDigits (W n).natAbs := by
      rcases hi with ⟨h3, _⟩ | ⟨_, _, h3⟩ | ⟨_, h3, _⟩
      · exact absurd h3 h1
      · exact h3
      · omega
    refine str_eq ?_
    rw [shw, if_pos hb, e]; rfl
  · rename_i h1 h2
    have e : s = Lib.decDigits (W n).natAbs := by
      rcases hi with ⟨h3, _⟩ | ⟨_, _, h3⟩ | ⟨_, h3, _⟩
      · exact absurd h3 h1
      · exact h3
      · omega
    refine str_eq ?_
    rw [shw, if_neg hb, e]
end Go.Proofs.YtbgomheagkcmaaaDoor
/- Numbers: the number of a text, plainly. -/
namespace Go.Proofs.YtbgomheagkcmaaaDoor
open Go.Sx

def isDig (c : UInt8) : Bool := decide (48 ≤ c.toNat) && decide (c.toNat ≤ 57)
def dvl (l : List UInt8) : Nat := l.foldl (fun m c => 10 * m + (c.toNat - 48)) 0
theorem dvl_snoc (l : List UInt8) (c : UInt8) : dvl (l ++ [c]) = 10 * dvl l + (c.toNat - 48) := by
  unfold dvl; rw [List.foldl_append]; rfl
theorem dvl_take {l : List UInt8} {i : Nat} (h : i < l.length) : dvl (l.take (i + 1)) = 10 * dvl (l.take i) + ((l.getD i 0).toNat - 48) := by
  rw [List.take_add_one, List.getElem?_eq_getElem h, Option.toList_some, dvl_snoc, List.getD_eq_getElem?_getD, List.getElem?_eq_getElem h]; rfl
theorem fold_le (l : List UInt8) : ∀ m : Nat, m ≤ l.foldl (fun m c => 10 * m + (c.toNat - 48)) m := by
  induction l with
  | nil => intro m; exact Nat.le_refl _
  | cons c l ih => intro m; exact Nat.le_trans (by omega) (ih (10 * m + (c.toNat - 48)))
theorem dvl_more {l : List UInt8} {i : Nat} (h : i < l.length) : 10 * dvl (l.take i) ≤ dvl l := by
  have e : dvl l = (l.drop (i + 1)).foldl (fun m c => 10 * m + (c.toNat - 48)) (dvl (l.take (i + 1))) := by
    conv => lhs; rw [← List.take_append_drop (i + 1) l]
    unfold dvl; rw [List.foldl_append]
  have h1 := fold_le (l.drop (i + 1)) (dvl (l.take (i + 1)))
  rw [← e, dvl_take h] at h1
  omega
theorem dvl_lt : ∀ (n : Nat) (l : List UInt8), l.length = n → l.all isDig = true → dvl l < 10 ^ n := by
  intro n
  induction n with
  | zero => intro l h _; rw [List.eq_nil_of_length_eq_zero h]; decide
  | succ n ih =>
    intro l h ha
    have hne : l ≠ [] := by intro e; rw [e] at h; cases h
    have e := List.dropLast_concat_getLast hne
    have hall : (l.dropLast ++ [l.getLast hne]).all isDig = true := by rw [e]; exact ha
    rw [List.all_append, Bool.and_eq_true] at hall
    have h1 := ih l.dropLast (by rw [List.length_dropLast]; omega) hall.1
    have h2 : isDig (l.getLast hne) = true := by simpa using hall.2
    simp only [isDig, Bool.and_eq_true, decide_eq_true_eq] at h2
    rw [← e, dvl_snoc, Nat.pow_succ]
    omega
theorem digs_all (u : Nat) : (Lib.decDigits u).all isDig = true := List.all_eq_true.2 fun c hc => by
  have := digs_mem u c hc
  simp [isDig, this.1, this.2]
theorem digs_dvl (u : Nat) : dvl (Lib.decDigits u) = u := by
  induction u using Nat.strongRecOn with
  | _ u ih =>
    rw [Lib.decDigits]
    split
    · rename_i h
      show dvl ([] ++ [_]) = _
      rw [dvl_snoc, digit_ofNat h]; simp [dvl]
    · rename_i h
      rw [dvl_snoc, ih (u / 10) (by omega), digit_ofNat (Nat.mod_lt _ (by decide))]
      omega

/-- the digits of a text; its number -/
def dg (s : List UInt8) : List UInt8 := Lib.trimPrefix s [126]
def rdS (s : List UInt8) : Int := if Lib.hasPrefix s [126] then -(dvl (dg s) : Int) else (dvl (dg s) : Int)
def rdOk (s : List UInt8) : Bool := (dg s).all isDig && decide (-4611686018427387904 ≤ rdS s) && decide (rdS s ≤ 4611686018427387903) && decide (shw (rdS s) = s)
def rdN (s : List UInt8) : Int := if rdOk s then rdS s else 0
def rdE (s : List UInt8) : Int := if rdOk s then 0 else 11

theorem pre_cons (l : List UInt8) : Lib.hasPrefix (126 :: l) [126] = true := by simp [Lib.hasPrefix, List.isPrefixOf]
theorem dg_cons (l : List UInt8) : dg (126 :: l) = l := by rw [dg, Lib.trimPrefix, if_pos (pre_cons l)]; rfl
theorem pre_digs (u : Nat) : Lib.hasPrefix (Lib.decDigits u) [126] = false := by
  obtain ⟨c, r, h, h1, h2⟩ := digs_cons u
  rw [h, Lib.hasPrefix, List.isPrefixOf]
  have : (126 == c) = false := by
    rw [beq_eq_false_iff_ne]; rintro rfl; exact absurd h2 (by decide)
  rw [this]; rfl
theorem dg_digs (u : Nat) : dg (Lib.decDigits u) = Lib.decDigits u := by rw [dg, Lib.trimPrefix, pre_digs]; rfl

theorem rd_shw (n : Int) (h : -4611686018427387904 ≤ n ∧ n ≤ 4611686018427387903) : rdOk (shw n) = true ∧ rdS (shw n) = n := by
  have e : rdS (shw n) = n ∧ (dg (shw n)).all isDig = true := by
    unfold shw rdS
    split
    · rename_i h0
      rw [pre_cons, dg_cons, if_pos rfl, digs_dvl]
      exact ⟨by omega, digs_all _⟩
    · rename_i h0
      rw [pre_digs, dg_digs, if_neg (by decide), digs_dvl]
      exact ⟨by omega, digs_all _⟩
  refine ⟨?_, e.1⟩
  rw [rdOk, e.1, e.2, decide_eq_true h.1, decide_eq_true h.2]; simp

/-- too many digits -/
theorem rd_long {s : List UInt8} (h : rdOk s = true) : (dg s).length ≤ 19 ∧ dg s ≠ [] := by
  simp only [rdOk, Bool.and_eq_true, decide_eq_true_eq] at h
  obtain ⟨⟨⟨_, h1⟩, h2⟩, h3⟩ := h
  have hd : dg s = Lib.decDigits (rdS s).natAbs := by
    conv => lhs; rw [← h3]
    unfold shw
    split
    · rw [dg_cons]
    · rw [dg_digs]
  rw [hd]
  refine ⟨?_, digs_ne _⟩
  rw [Lib.decDigits_length]
  have h4 : (rdS s).natAbs ≤ 4611686018427387904 := by omega
  rcases Nat.lt_or_ge (rdS s).natAbs (10 ^ 18) with h5 | h5
  · rcases Nat.lt_or_ge (Lib.nDigits (rdS s).natAbs) 20 with h6 | h6
    · omega
    · exfalso
      have := Lib.nDigits_le20 (rdS s).natAbs (by omega)
      have h7 : Lib.nDigits (rdS s).natAbs = 20 := by omega
      have hp : ∀ k u : Nat, u < 10 ^ (k + 1) → Lib.nDigits u ≤ k + 1 := by
        intro k
        induction k with
        | zero => intro u hu; rw [Lib.nDigits_small (by omega)]; exact Nat.le_refl _
        | succ k ih =>
          intro u hu
          by_cases h10 : u < 10
          · rw [Lib.nDigits_small h10]; omega
          · rw [Lib.nDigits_big h10]
            have := ih (u / 10) (by rw [Nat.pow_succ] at hu; omega)
            omega
      have := hp 17 _ h5
      omega
  · rw [Lib.nDigits_unique 18 _ h5 (by have : (10 : Nat) ^ (18 + 1) = 10000000000000000000 := by decide
                                       rw [this]; omega)]
    exact Nat.le_refl _
end Go.Proofs.YtbgomheagkcmaaaDoor
/- Numbers: the walks of both Reads. -/
namespace Go.Proofs.YtbgomheagkcmaaaDoor
open Go.Sx
attribute [local irreducible] hasBody Program.underlying Ylds astep alex alexE alexD awp PCall FCall RCall athen ablock ajump rpost fpost

theorem rdN_no {s : List UInt8} (h : rdOk s = false) : rdN s = 0 := by rw [rdN, h]; rfl
theorem rdE_no {s : List UInt8} (h : rdOk s = false) : rdE s = 11 := by rw [rdE, h]; rfl
theorem rdN_yes {s : List UInt8} (h : rdOk s = true) : rdN s = rdS s := by rw [rdN, h]; rfl
theorem rdE_yes {s : List UInt8} (h : rdOk s = true) : rdE s = 0 := by rw [rdE, h]; rfl

theorem getBw {l : List UInt8} {i : Nat} (h : i < (⟨l.toArray⟩ : ByteArray).size) : (⟨l.toArray⟩ : ByteArray)[i]'h = l.getD i 0 := by
  have hlt : i < l.length := by rw [str_size] at h; exact h
  rw [List.getD_eq_getElem?_getD, List.getElem?_eq_getElem hlt]; rfl

/-- what the range hands over -/
theorem dec_dig {l : List UInt8} {i : Nat} (h : i < l.length) (h1 : 48 ≤ ((Utf8.decode ⟨l.toArray⟩ i).1 : Int)) (h2 : ((Utf8.decode ⟨l.toArray⟩ i).1 : Int) ≤ 57) :
    (Utf8.decode ⟨l.toArray⟩ i).1 = (l.getD i 0).toNat ∧ (Utf8.decode ⟨l.toArray⟩ i).2 = 1 ∧ isDig (l.getD i 0) = true := by
  have hs : i < (⟨l.toArray⟩ : ByteArray).size := by rw [str_size]; exact h
  rcases Nat.lt_or_ge ((⟨l.toArray⟩ : ByteArray)[i]'hs).toNat 128 with h3 | h3
  · have e := decode_ascii ⟨l.toArray⟩ i hs h3
    rw [getBw hs] at e
    rw [e] at h1 h2 ⊢
    dsimp only at h1 h2
    refine ⟨rfl, rfl, ?_⟩
    simp only [isDig, Bool.and_eq_true, decide_eq_true_eq]; omega
  · have := (decode_high ⟨l.toArray⟩ i hs h3).1
    omega
theorem dec_no {l : List UInt8} {i : Nat} (h : i < l.length) (h1 : ((Utf8.decode ⟨l.toArray⟩ i).1 : Int) < 48 ∨ ((Utf8.decode ⟨l.toArray⟩ i).1 : Int) > 57) : isDig (l.getD i 0) = false := by
  have hs : i < (⟨l.toArray⟩ : ByteArray).size := by rw [str_size]; exact h
  cases hd : isDig (l.getD i 0) with
  | false => rfl
  | true =>
    simp only [isDig, Bool.and_eq_true, decide_eq_true_eq] at hd
    have e := decode_ascii ⟨l.toArray⟩ i hs (by rw [getBw hs]; omega)
    rw [getBw hs] at e
    rw [e] at h1
    dsimp only at h1
    omega
theorem all_no {l : List UInt8} {i : Nat} (h : i < l.length) (hd : isDig (l.getD i 0) = false) : l.all isDig = false := by
  cases ha : l.all isDig with
  | false => rfl
  | true =>
    have := List.all_eq_true.1 ha (l.getD i 0) (by rw [List.getD_eq_getElem?_getD, List.getElem?_eq_getElem h]; exact List.getElem_mem h)
    rw [hd] at this; cases this
theorem rd_nodig {s : List UInt8} (h : (dg s).all isDig = false) : rdOk s = false := by rw [rdOk, h]; rfl
theorem rd_great {s : List UInt8} (h : 4611686018427387904 < dvl (dg s)) : rdOk s = false := by
  cases hr : rdOk s with
  | false => rfl
  | true =>
    simp only [rdOk, Bool.and_eq_true, decide_eq_true_eq] at hr
    obtain ⟨⟨⟨_, h1⟩, h2⟩, _⟩ := hr
    unfold rdS at h1 h2
    by_cases hp : Lib.hasPrefix s [126] = true
    · rw [if_pos hp] at h1; omega
    · rw [if_neg hp] at h2; omega
theorem err1 {s : List UInt8} {i : Nat} (h : i < (⟨(dg s).toArray⟩ : ByteArray).size) (h1 : ((Utf8.decode ⟨(dg s).toArray⟩ i).1 : Int) < 48 ∨ ((Utf8.decode ⟨(dg s).toArray⟩ i).1 : Int) > 57) : rdOk s = false := by
  rw [str_size] at h
  exact rd_nodig (all_no h (dec_no h h1))
theorem err2 {s : List UInt8} {i : Nat} (h : i < (⟨(dg s).toArray⟩ : ByteArray).size) (h1 : -((dvl ((dg s).take i) : Nat) : Int) < -461168601842738790) : rdOk s = false := by
  rw [str_size] at h
  have := dvl_more h
  exact rd_great (by omega)
theorem end_take {s : List UInt8} {i : Nat} (h : ¬ i < (⟨(dg s).toArray⟩ : ByteArray).size) : (dg s).take i = dg s := by
  rw [str_size] at h
  exact List.take_of_length_le (by omega)
theorem val_pos {s : List UInt8} {i : Nat} (h : ¬ i < (⟨(dg s).toArray⟩ : ByteArray).size) (hp : (!Lib.hasPrefix s [126]) = true) (h3 : dvl ((dg s).take i) ≤ 4611686018427387909) : IntKind.i64.wrap (0 - -((dvl ((dg s).take i) : Nat) : Int)) = rdS s := by
  have hp : Lib.hasPrefix s [126] = false := by simpa using hp
  rw [rdS, hp, wrap_i64, if_neg (by decide)]
  rw [end_take h] at h3 ⊢
  omega
theorem val_neg {s : List UInt8} {i : Nat} (h : ¬ i < (⟨(dg s).toArray⟩ : ByteArray).size) (hp : (!Lib.hasPrefix s [126]) = false) : -((dvl ((dg s).take i) : Nat) : Int) = rdS s := by
  have hp : Lib.hasPrefix s [126] = true := by simpa using hp
  rw [rdS, hp, if_pos rfl, end_take h]
theorem no_gt {s : List UInt8} (h : rdS s > 4611686018427387903) : rdOk s = false := by
  rw [rdOk, decide_eq_false (show ¬ rdS s ≤ 4611686018427387903 by omega)]; simp
theorem no_lt {s : List UInt8} (h : rdS s < -4611686018427387904) : rdOk s = false := by
  rw [rdOk, decide_eq_false (show ¬ -4611686018427387904 ≤ rdS s by omega)]; simp
theorem no_ne {s : List UInt8} (h1 : ¬ rdS s > 4611686018427387903) (h2 : ¬ rdS s < -4611686018427387904) (h : shw (W (rdS s)) ≠ s) : rdOk s = false := by
  rw [W_id (by omega)] at h
  rw [rdOk, decide_eq_false h]; simp
theorem yes_ {s : List UInt8} {i : Nat} (h0 : ¬ i < (⟨(dg s).toArray⟩ : ByteArray).size) (ha : ((dg s).take i).all isDig = true) (h1 : ¬ rdS s > 4611686018427387903) (h2 : ¬ rdS s < -4611686018427387904) (h : ¬ shw (W (rdS s)) ≠ s) : rdOk s = true := by
  rw [W_id (by omega)] at h
  rw [end_take h0] at ha
  rw [rdOk, ha, decide_eq_true (show rdS s ≤ 4611686018427387903 by omega), decide_eq_true (show -4611686018427387904 ≤ rdS s by omega), decide_eq_true (Decidable.not_not.1 h)]; rfl

theorem wRead_ok (s : List UInt8) (_hs : s.length ≤ 1000000) : PCall Tryd.prog 56 [str s] (.tup [i64 (rdN s), i64 (rdE s)]) := by
  refine pcall_of Tryd.func56 rfl Tryd.ntmps56 Tryd.results56 rfl ?_
  intro wb St0
  repeat' first
    | refine en_n ?_
    | refine awp_seq ?_
    | refine awp_region ?_
    | refine alex_nil ?_
    | refine w0 ?_
    | (refine Y_call hb_CutPrefix (CutPrefix_ok s [126]) (CoL_d rfl (CoL_d rfl CoL_nil)))
    | (apply aRange (hd := rfl) (hro := rfl); exact rfl; with_reducible exact ustr)
    | apply ay (hd := rfl)
    | (apply Y_move_d; exact rfl)
    | (apply Y_assign_d; exact rfl)
    | (apply Y_extract; exact rfl; exact rfl)
    | refine awp_block ?_
  refine awp_loopF (α := Nat) (fun i => i ≤ (dg s).length ∧ ((dg s).take i).all isDig = true ∧ dvl ((dg s).take i) ≤ 4611686018427387909)
    (fun i => [(0, .d (str s)), (5, .d (bl (Lib.hasPrefix s [126]))), (6, .d (i64 (-(dvl ((dg s).take i) : Int)))), (15, .ptr 0 0)]) (fun i => [.iter ⟨(dg s).toArray⟩ i]) (fun i => (dg s).length - i) 0 ⟨Nat.zero_le _, rfl, Nat.zero_le _⟩
      (Fits_mk (Le_cons rfl (Le_cons rfl (Le_cons rfl (Le_cons rfl Le_nil)))) (Pre_cons rfl rfl Pre_nil) rfl rfl) ?_
  rintro i ⟨hi1, hi2, hi3⟩
  repeat' first
    | refine en_n ?_
    | refine awp_seq ?_
    | refine awp_region ?_
    | refine alex_nil ?_
    | refine w0 ?_
    | (apply Y_conv; exact rfl; (first | with_reducible exact si64 | with_reducible exact su64 | with_reducible exact su8 | with_reducible exact si32); (first | with_reducible exact ui64 | with_reducible exact uu64 | with_reducible exact uu8 | with_reducible exact ui32))
    | (apply Y_neg; exact rfl)
    | (apply Y_subw (k := .i64); exact rfl; exact rfl)
    | (apply Y_mulw (k := .i64); exact rfl; exact rfl)
    | (apply aNext (hd := rfl) (hro := rfl); exact rfl; exact rfl; (intro hb); rotate_left; (intro hb); rotate_right)
    | (apply Y_subw (k := .i32); exact rfl; exact rfl)
    | (refine Y_call hb_wShow (wShow_ok _) (CoL_d rfl CoL_nil))
    | (apply Y_neqs; exact rfl; exact rfl)
    | apply ay (hd := rfl)
    | (apply Y_move_d; exact rfl)
    | (apply Y_assign_d; exact rfl)
    | (apply Y_lss; exact rfl; exact rfl)
    | (apply Y_gtr; exact rfl; exact rfl)
    | (apply Y_not; exact rfl)
    | (apply Y_pick_t; exact rfl; exact rfl)
    | (apply Y_pick_f; exact rfl; exact rfl)
    | (apply Y_extract; exact rfl; exact rfl)
    | (apply w1; exact rfl; exact rfl)
    | (apply k0 (hd := rfl); exact rfl; exact rfl)
    | (apply gD; exact rfl; exact rfl; (intro hb); rotate_left; (intro hb); rotate_right)
    | (apply awp_condD; exact rfl; (intro hb); rotate_left; (intro hb); rotate_right)
    | (apply awp_condT; exact rfl)
    | (apply awp_condF; exact rfl)
    | (apply awp_cond; exact rfl; (intro hb); rotate_left; (intro hb); rotate_right)
    | refine awp_block ?_
    | refine awp_skip ?_
    | refine awp_ret ?_
    | refine awp_exit ?_
    | refine en_r ?_
    | refine en_e ?_
    | refine eb_n ?_
    | refine eb_r ?_
    | refine eb_e ?_
    | refine rpost_ret ?_
    | (apply res2; exact rfl; exact rfl)
  · rename_i h0; rw [rdN_no (err1 h0 (.inl hb))]
  · rename_i h0; rw [rdE_no (err1 h0 (.inl hb))]
  · rename_i h0 h1; rw [rdN_no (err1 h0 (.inr hb))]
  · rename_i h0 h1; rw [rdE_no (err1 h0 (.inr hb))]
  · rename_i h0 h1 h2; rw [rdN_no (err2 h0 hb)]
  · rename_i h0 h1 h2; rw [rdE_no (err2 h0 hb)]
  · rename_i h0 h1 h2
    have hlt : i < (dg s).length := by rw [str_size] at h0; exact h0
    obtain ⟨e1, e2, e3⟩ := dec_dig hlt (by omega) (by omega)
    have e4 := dvl_take hlt
    have e5 := e3
    simp only [isDig, Bool.and_eq_true, decide_eq_true_eq] at e5
    refine ⟨i + 1, ⟨by omega, ?_, by omega⟩, by omega, Fits_mk (Le_cons rfl (Le_cons rfl (Le_d rfl (i64_eq ?_).symm (Le_cons rfl Le_nil)))) (Pre_cons rfl (by rw [e2]) Pre_nil) rfl rfl⟩
    · rw [List.take_add_one, List.all_append, hi2, List.getElem?_eq_getElem hlt]
      rw [List.getD_eq_getElem?_getD, List.getElem?_eq_getElem hlt] at e3
      simpa using e3
    · rw [e1, e4, wrap_i64, wrap_i64, wrap_i64, wrap_i32]; omega
  · rename_i h1 h2; rw [val_pos h1 h2 hi3] at hb; rw [rdN_no (no_gt hb)]
  · rename_i h1 h2; rw [val_pos h1 h2 hi3] at hb; rw [rdE_no (no_gt hb)]
  · rename_i h1 h2 h3; rw [val_pos h1 h2 hi3] at hb; rw [rdN_no (no_lt hb)]
  · rename_i h1 h2 h3; rw [val_pos h1 h2 hi3] at hb; rw [rdE_no (no_lt hb)]
  · rename_i h1 h2 h3 h4; rw [val_pos h1 h2 hi3] at h3 h4 hb; rw [rdN_no (no_ne h3 h4 hb)]
  · rename_i h1 h2 h3 h4; rw [val_pos h1 h2 hi3] at h3 h4 hb; rw [rdE_no (no_ne h3 h4 hb)]
  · rename_i h1 h2 h3 h4; rw [val_pos h1 h2 hi3] at h3 h4 hb ⊢; rw [rdN_yes (yes_ h1 hi2 h3 h4 hb)]
  · rename_i h1 h2 h3 h4; rw [val_pos h1 h2 hi3] at h3 h4 hb; rw [rdE_yes (yes_ h1 hi2 h3 h4 hb)]
  · rename_i h1 h2; rw [val_neg h1 h2] at hb; rw [rdN_no (no_gt hb)]
  · rename_i h1 h2; rw [val_neg h1 h2] at hb; rw [rdE_no (no_gt hb)]
  · rename_i h1 h2 h3; rw [val_neg h1 h2] at hb; rw [rdN_no (no_lt hb)]
  · rename_i h1 h2 h3; rw [val_neg h1 h2] at hb; rw [rdE_no (no_lt hb)]
  · rename_i h1 h2 h3 h4; rw [val_neg h1 h2] at h3 h4 hb; rw [rdN_no (no_ne h3 h4 hb)]
  · rename_i h1 h2 h3 h4; rw [val_neg h1 h2] at h3 h4 hb; rw [rdE_no (no_ne h3 h4 hb)]
  · rename_i h1 h2 h3 h4; rw [val_neg h1 h2] at h3 h4 hb ⊢; rw [rdN_yes (yes_ h1 hi2 h3 h4 hb)]
  · rename_i h1 h2 h3 h4; rw [val_neg h1 h2] at h3 h4 hb; rw [rdE_yes (yes_ h1 hi2 h3 h4 hb)]
end Go.Proofs.YtbgomheagkcmaaaDoor
/- Numbers: the walk of the document's Read. (Printed by genG.py.) -/
namespace Go.Proofs.YtbgomheagkcmaaaDoor
open Go.Sx
attribute [local irreducible] hasBody Program.underlying Ylds astep alex alexE alexD awp PCall FCall RCall athen ablock ajump rpost fpost

theorem s_cons {s : List UInt8} (h1 : (s.length : Int) > 0) (h2 : ((s.getD (Int.toNat 0) 0).toNat : Int) = 126) : ∃ r, s = 126 :: r := by
  cases s with
  | nil => simp at h1
  | cons c r =>
    refine ⟨r, ?_⟩
    have h3 : c.toNat = 126 := by
      have : (c.toNat : Int) = 126 := h2
      omega
    have : c = 126 := UInt8.toNat_inj.1 h3
    rw [this]
theorem dgA {s : List UInt8} (h1 : (s.length : Int) > 0) (h2 : ((s.getD (Int.toNat 0) 0).toNat : Int) = 126) : s.drop (Int.toNat 1) = dg s ∧ Lib.hasPrefix s [126] = true ∧ (dg s).length < s.length := by
  obtain ⟨r, rfl⟩ := s_cons h1 h2
  rw [dg_cons]
  exact ⟨rfl, pre_cons r, by simp⟩
theorem dgB {s : List UInt8} (h2 : ¬ ((s.getD (Int.toNat 0) 0).toNat : Int) = 126) : s = dg s ∧ Lib.hasPrefix s [126] = false := by
  have hp : Lib.hasPrefix s [126] = false := by
    cases s with
    | nil => rfl
    | cons c r =>
      have : (126 == c) = false := by
        rw [beq_eq_false_iff_ne]; rintro rfl; exact h2 rfl
      rw [Lib.hasPrefix, List.isPrefixOf, this]; rfl
  refine ⟨?_, hp⟩
  rw [dg, Lib.trimPrefix, hp]; rfl
theorem dgC {s : List UInt8} (h1 : ¬ (s.length : Int) > 0) : s = dg s ∧ Lib.hasPrefix s [126] = false := by
  have : s = [] := List.eq_nil_of_length_eq_zero (by omega)
  subst this; exact ⟨rfl, rfl⟩
theorem rd_short {s : List UInt8} (h : dg s = []) : rdOk s = false := by
  cases hr : rdOk s with
  | false => rfl
  | true => exact absurd h (rd_long hr).2
theorem rd_over {s : List UInt8} (h : ((dg s).length : Int) > 19) : rdOk s = false := by
  cases hr : rdOk s with
  | false => rfl
  | true => have := (rd_long hr).1; omega
theorem bl_eq {a b : Bool} (h : b = a) : D.val (.bool a) = bl b := by rw [h]
theorem errD {s : List UInt8} {i : Nat} (h : (i : Int) < ((dg s).length : Int)) (h1 : (((dg s).getD (Int.toNat (i : Int)) 0).toNat : Int) < 48 ∨ (((dg s).getD (Int.toNat (i : Int)) 0).toNat : Int) > 57) : rdOk s = false := by
  refine rd_nodig (all_no (i := i) (by omega) ?_)
  have h1 : (((dg s).getD i 0).toNat : Int) < 48 ∨ (((dg s).getD i 0).toNat : Int) > 57 := h1
  cases hd : isDig ((dg s).getD i 0) with
  | false => rfl
  | true =>
    simp only [isDig, Bool.and_eq_true, decide_eq_true_eq] at hd
    omega
theorem end_t {s : List UInt8} {i : Nat} (h : ¬ (i : Int) < ((dg s).length : Int)) : (dg s).take i = dg s := List.take_of_length_le (by omega)
theorem great_t {s : List UInt8} {i : Nat} (h : ¬ (i : Int) < ((dg s).length : Int)) (h1 : ((dvl ((dg s).take i) : Nat) : Int) > 4611686018427387904) : rdOk s = false := by
  rw [end_t h] at h1; exact rd_great (by omega)
theorem neg_t {s : List UInt8} {i : Nat} (hp : Lib.hasPrefix s [126] = true) (h : ¬ (i : Int) < ((dg s).length : Int)) (h1 : ¬ ((dvl ((dg s).take i) : Nat) : Int) > 4611686018427387904) :
    W (IntKind.u64.wrap (0 - ((dvl ((dg s).take i) : Nat) : Int))) = rdS s ∧ ¬ rdS s > 4611686018427387903 ∧ ¬ rdS s < -4611686018427387904 := by
  rw [end_t h] at h1 ⊢
  rw [W_u64, rdS, hp, if_pos rfl, W_id (by omega)]
  omega
theorem pos_no {s : List UInt8} {i : Nat} (hp : Lib.hasPrefix s [126] = false) (h : ¬ (i : Int) < ((dg s).length : Int)) (h1 : ¬ ((dvl ((dg s).take i) : Nat) : Int) > 4611686018427387904)
    (h2 : shw (W (W ((dvl ((dg s).take i) : Nat) : Int))) ≠ s) : rdOk s = false := by
  rw [end_t h] at h1 h2
  have e : rdS s = (dvl (dg s) : Int) := by rw [rdS, hp, if_neg (by decide)]
  rcases Nat.lt_or_ge (dvl (dg s)) 4611686018427387904 with h3 | h3
  · rw [W_W, ← e] at h2
    exact no_ne (by omega) (by omega) h2
  · exact no_gt (by omega)
theorem pos_ok {s : List UInt8} {i : Nat} (hp : Lib.hasPrefix s [126] = false) (h : ¬ (i : Int) < ((dg s).length : Int)) (ha : ((dg s).take i).all isDig = true) (h1 : ¬ ((dvl ((dg s).take i) : Nat) : Int) > 4611686018427387904)
    (h2 : ¬ shw (W (W ((dvl ((dg s).take i) : Nat) : Int))) ≠ s) : rdOk s = true ∧ W ((dvl ((dg s).take i) : Nat) : Int) = rdS s := by
  have hs : ¬ i < (⟨(dg s).toArray⟩ : ByteArray).size := by rw [str_size]; omega
  have et := end_t h
  rw [et] at h1 h2 ⊢
  have e : rdS s = (dvl (dg s) : Int) := by rw [rdS, hp, if_neg (by decide)]
  rcases Nat.lt_or_ge (dvl (dg s)) 4611686018427387904 with h3 | h3
  · rw [W_W, ← e] at h2
    exact ⟨yes_ hs ha (by omega) (by omega) h2, by rw [← e, W_id (by omega)]⟩
  · exfalso
    have h4 : W (W (dvl (dg s) : Int)) = -4611686018427387904 := by
      have : (dvl (dg s) : Int) = 4611686018427387904 := by omega
      rw [this]; decide
    rw [h4] at h2
    have h2 := Decidable.not_not.1 h2
    rw [shw, if_pos (by decide)] at h2
    rw [← h2, pre_cons] at hp
    cases hp

set_option maxHeartbeats 4000000 in
theorem rRead_ok (s : List UInt8) (hs : s.length ≤ 1000000) : PCall Tryd.prog 59 [str s] (.tup [i64 (rdN s), bl (rdOk s)]) := by
  refine pcall_of Tryd.func59 rfl Tryd.ntmps59 Tryd.results59 rfl ?_
  intro wb St0
  repeat' first
    | refine en_n ?_
    | refine awp_seq ?_
    | refine awp_region ?_
    | refine alex_nil ?_
    | refine w0 ?_
    | (apply Y_idx_l; exact rfl; exact rfl; with_reducible exact ustr; omega)
    | (apply Y_len_l; exact rfl; with_reducible exact ustr)
    | (apply Y_drop_l; exact rfl; exact rfl; with_reducible exact ustr; omega)
    | (apply Y_eqs; exact rfl; exact rfl)
    | apply ay (hd := rfl)
    | (apply Y_move_d; exact rfl)
    | (apply Y_assign_d; exact rfl)
    | (apply Y_gtr; exact rfl; exact rfl)
    | (apply Y_eql; exact rfl; exact rfl)
    | (apply Y_pick_t; exact rfl; exact rfl)
    | (apply Y_pick_f; exact rfl; exact rfl)
    | (apply w1; exact rfl; exact rfl)
    | (apply k1 (hd := rfl); exact rfl; exact rfl)
    | (apply k0 (hd := rfl); exact rfl; exact rfl)
    | (apply gD; exact rfl; exact rfl; (intro hb); rotate_left; (intro hb); rotate_right)
    | (apply awp_condD; exact rfl; (intro hb); rotate_left; (intro hb); rotate_right)
    | (apply awp_condT; exact rfl)
    | (apply awp_condF; exact rfl)
    | refine awp_block ?_
    | refine awp_skip ?_
    | refine awp_ret ?_
    | refine en_r ?_
    | refine rpost_ret ?_
    | (apply res2; exact rfl; exact rfl)
  · rename_i h1 h2; obtain ⟨hd, hp, hlen⟩ := dgA h1 h2; rw [hd] at hb; rw [rdN_no (rd_short hb)]
  · rename_i h1 h2; obtain ⟨hd, hp, hlen⟩ := dgA h1 h2; rw [hd] at hb; exact bl_eq (rd_short hb)
  · rename_i h1 h2 h3; obtain ⟨hd, hp, hlen⟩ := dgA h1 h2; rw [hd] at hb; rw [rdN_no (rd_over hb)]
  · rename_i h1 h2 h3; obtain ⟨hd, hp, hlen⟩ := dgA h1 h2; rw [hd] at hb; exact bl_eq (rd_over hb)
  · rename_i h1 h2 h3; obtain ⟨hd, hp, hlen⟩ := dgA h1 h2; rw [hd] at hb
    rw [hd]
    refine awp_loopF (α := Nat) (fun i => i ≤ (dg s).length ∧ ((dg s).take i).all isDig = true)
      (fun i => [(0, .d (str s)), (4, .d (str (dg s))), (5, .d (u64 ((dvl ((dg s).take i) : Nat) : Int))), (6, .d (i64 (i : Int)))]) (fun _ => []) (fun i => (dg s).length - i) 0 ⟨Nat.zero_le _, rfl⟩
      (Fits_mk (Le_cons rfl (Le_cons rfl (Le_cons rfl (Le_cons rfl Le_nil)))) Pre_nil rfl rfl) ?_
    rintro i ⟨hi1, hi2⟩
    repeat' first
      | refine en_n ?_
      | refine awp_seq ?_
      | refine awp_region ?_
      | refine alex_nil ?_
      | refine w0 ?_
      | (apply Y_conv; exact rfl; (first | with_reducible exact si64 | with_reducible exact su64 | with_reducible exact su8 | with_reducible exact si32); (first | with_reducible exact ui64 | with_reducible exact uu64 | with_reducible exact uu8 | with_reducible exact ui32))
      | (apply Y_addw (k := .u64); exact rfl; exact rfl)
      | (apply Y_subw (k := .u64); exact rfl; exact rfl)
      | (apply Y_mulw (k := .u64); exact rfl; exact rfl)
      | (apply Y_idx_l; exact rfl; exact rfl; with_reducible exact ustr; omega)
      | (apply Y_len_l; exact rfl; with_reducible exact ustr)
      | (apply Y_subw (k := .u8); exact rfl; exact rfl)
      | (refine Y_call hb_back (back_ok _ (by omega)) (CoL_d rfl CoL_nil))
      | (refine Y_call hb_back (back_ok _ (by rw [wrap_u64]; omega)) (CoL_d rfl CoL_nil))
      | (refine Y_call hb_rShow (rShow_ok _) (CoL_d rfl CoL_nil))
      | (apply Y_neqs; exact rfl; exact rfl)
      | apply ay (hd := rfl)
      | (apply Y_move_d; exact rfl)
      | (apply Y_assign_d; exact rfl)
      | (apply Y_lss; exact rfl; exact rfl)
      | (apply Y_gtr; exact rfl; exact rfl)
      | (apply Y_add; exact rfl; exact rfl)
      | (apply Y_pick_t; exact rfl; exact rfl)
      | (apply Y_pick_f; exact rfl; exact rfl)
      | (apply w1; exact rfl; exact rfl)
      | (apply k0 (hd := rfl); exact rfl; exact rfl)
      | (apply gD; exact rfl; exact rfl; (intro hb); rotate_left; (intro hb); rotate_right)
      | (apply awp_condD; exact rfl; (intro hb); rotate_left; (intro hb); rotate_right)
      | (apply awp_condT; exact rfl)
      | refine awp_block ?_
      | refine awp_skip ?_
      | refine awp_ret ?_
      | refine awp_exit ?_
      | refine en_r ?_
      | refine en_e ?_
      | refine eb_n ?_
      | refine eb_r ?_
      | refine eb_e ?_
      | refine rpost_ret ?_
      | (apply res2; exact rfl; exact rfl)
    · rename_i h4; rw [rdN_no (errD h4 (.inl hb))]
    · rename_i h4; exact bl_eq (errD h4 (.inl hb))
    · rename_i h4 h5; rw [rdN_no (errD h4 (.inr hb))]
    · rename_i h4 h5; exact bl_eq (errD h4 (.inr hb))
    · omega
    · rename_i h4 h5
      have hlt : i < (dg s).length := by omega
      have h5 : ¬ (((dg s).getD i 0).toNat : Int) < 48 := h5
      have hb2 : ¬ (((dg s).getD i 0).toNat : Int) > 57 := hb
      have e4 := dvl_take hlt
      have ha : ((dg s).take (i + 1)).all isDig = true := by
        rw [List.take_add_one, List.all_append, hi2, List.getElem?_eq_getElem hlt]
        have e3 : isDig ((dg s).getD i 0) = true := by simp only [isDig, Bool.and_eq_true, decide_eq_true_eq]; omega
        rw [List.getD_eq_getElem?_getD, List.getElem?_eq_getElem hlt] at e3
        simpa using e3
      have e5 := dvl_lt (i + 1) ((dg s).take (i + 1)) (by rw [List.length_take]; omega) ha
      have e6 : (10 : Nat) ^ (i + 1) ≤ 10 ^ 19 := Nat.pow_le_pow_right (by decide) (by omega)
      have e7 : (10 : Nat) ^ 19 = 10000000000000000000 := by decide
      refine ⟨i + 1, ⟨by omega, ha⟩, by omega, Fits_mk (Le_cons rfl (Le_cons rfl (Le_d rfl (u64_eq ?_).symm (Le_cons rfl Le_nil)))) Pre_nil rfl rfl⟩
      show IntKind.u64.wrap (IntKind.u64.wrap (10 * ((dvl ((dg s).take i) : Nat) : Int)) + IntKind.u64.wrap (IntKind.u8.wrap ((((dg s).getD i 0).toNat : Int) - 48))) = _
      rw [e4, wrap_u64, wrap_u64, wrap_u64, wrap_u8]; omega
    · rename_i h4; rw [rdN_no (great_t h4 hb)]
    · rename_i h4; exact bl_eq (great_t h4 hb)
    · rename_i h4 h5 h6; obtain ⟨e1, e2, e3⟩ := neg_t hp h4 h5; rw [e1] at hb; rw [rdN_no (no_ne e2 e3 hb)]
    · rename_i h4 h5 h6; obtain ⟨e1, e2, e3⟩ := neg_t hp h4 h5; rw [e1] at hb; exact bl_eq (no_ne e2 e3 hb)
    · rename_i h4 h5 h6; obtain ⟨e1, e2, e3⟩ := neg_t hp h4 h5; rw [e1] at hb ⊢; rw [rdN_yes (yes_ (by rw [str_size]; omega) hi2 e2 e3 hb)]
    · rename_i h4 h5 h6; obtain ⟨e1, e2, e3⟩ := neg_t hp h4 h5; rw [e1] at hb; exact bl_eq (yes_ (by rw [str_size]; omega) hi2 e2 e3 hb)
    · omega
    · omega
    · omega
    · omega
  · rename_i h1 h2; obtain ⟨hd, hp⟩ := dgB h2; rw [hd] at hb; rw [rdN_no (rd_short hb)]
  · rename_i h1 h2; obtain ⟨hd, hp⟩ := dgB h2; rw [hd] at hb; exact bl_eq (rd_short hb)
  · rename_i h1 h2 h3; obtain ⟨hd, hp⟩ := dgB h2; rw [hd] at hb; rw [rdN_no (rd_over hb)]
  · rename_i h1 h2 h3; obtain ⟨hd, hp⟩ := dgB h2; rw [hd] at hb; exact bl_eq (rd_over hb)
  · rename_i h1 h2 h3; obtain ⟨hd, hp⟩ := dgB h2; rw [hd] at hb
    refine awp_loopF (α := Nat) (fun i => i ≤ (dg s).length ∧ ((dg s).take i).all isDig = true)
      (fun i => [(0, .d (str s)), (4, .d (str (dg s))), (5, .d (u64 ((dvl ((dg s).take i) : Nat) : Int))), (6, .d (i64 (i : Int)))]) (fun _ => []) (fun i => (dg s).length - i) 0 ⟨Nat.zero_le _, rfl⟩
      (Fits_mk (Le_cons rfl (Le_d rfl (str_eq hd.symm) (Le_cons rfl (Le_cons rfl Le_nil)))) Pre_nil rfl rfl) ?_
    rintro i ⟨hi1, hi2⟩
    repeat' first
      | refine en_n ?_
      | refine awp_seq ?_
      | refine awp_region ?_
      | refine alex_nil ?_
      | refine w0 ?_
      | (apply Y_conv; exact rfl; (first | with_reducible exact si64 | with_reducible exact su64 | with_reducible exact su8 | with_reducible exact si32); (first | with_reducible exact ui64 | with_reducible exact uu64 | with_reducible exact uu8 | with_reducible exact ui32))
      | (apply Y_addw (k := .u64); exact rfl; exact rfl)
      | (apply Y_subw (k := .u64); exact rfl; exact rfl)
      | (apply Y_mulw (k := .u64); exact rfl; exact rfl)
      | (apply Y_idx_l; exact rfl; exact rfl; with_reducible exact ustr; omega)
      | (apply Y_len_l; exact rfl; with_reducible exact ustr)
      | (apply Y_subw (k := .u8); exact rfl; exact rfl)
      | (refine Y_call hb_back (back_ok _ (by omega)) (CoL_d rfl CoL_nil))
      | (refine Y_call hb_back (back_ok _ (by rw [wrap_u64]; omega)) (CoL_d rfl CoL_nil))
      | (refine Y_call hb_rShow (rShow_ok _) (CoL_d rfl CoL_nil))
      | (apply Y_neqs; exact rfl; exact rfl)
      | apply ay (hd := rfl)
      | (apply Y_move_d; exact rfl)
      | (apply Y_assign_d; exact rfl)
      | (apply Y_lss; exact rfl; exact rfl)
      | (apply Y_gtr; exact rfl; exact rfl)
      | (apply Y_add; exact rfl; exact rfl)
      | (apply Y_pick_t; exact rfl; exact rfl)
      | (apply Y_pick_f; exact rfl; exact rfl)
      | (apply w1; exact rfl; exact rfl)
      | (apply k0 (hd := rfl); exact rfl; exact rfl)
      | (apply gD; exact rfl; exact rfl; (intro hb); rotate_left; (intro hb); rotate_right)
      | (apply awp_condD; exact rfl; (intro hb); rotate_left; (intro hb); rotate_right)
      | (apply awp_condT; exact rfl)
      | refine awp_block ?_
      | refine awp_skip ?_
      | refine awp_ret ?_
      | refine awp_exit ?_
      | refine en_r ?_
      | refine en_e ?_
      | refine eb_n ?_
      | refine eb_r ?_
      | refine eb_e ?_
      | refine rpost_ret ?_
      | (apply res2; exact rfl; exact rfl)
    · rename_i h4; rw [rdN_no (errD h4 (.inl hb))]
    · rename_i h4; exact bl_eq (errD h4 (.inl hb))
    · rename_i h4 h5; rw [rdN_no (errD h4 (.inr hb))]
    · rename_i h4 h5; exact bl_eq (errD h4 (.inr hb))
    · omega
    · rename_i h4 h5
      have hlt : i < (dg s).length := by omega
      have h5 : ¬ (((dg s).getD i 0).toNat : Int) < 48 := h5
      have hb2 : ¬ (((dg s).getD i 0).toNat : Int) > 57 := hb
      have e4 := dvl_take hlt
      have ha : ((dg s).take (i + 1)).all isDig = true := by
        rw [List.take_add_one, List.all_append, hi2, List.getElem?_eq_getElem hlt]
        have e3 : isDig ((dg s).getD i 0) = true := by simp only [isDig, Bool.and_eq_true, decide_eq_true_eq]; omega
        rw [List.getD_eq_getElem?_getD, List.getElem?_eq_getElem hlt] at e3
        simpa using e3
      have e5 := dvl_lt (i + 1) ((dg s).take (i + 1)) (by rw [List.length_take]; omega) ha
      have e6 : (10 : Nat) ^ (i + 1) ≤ 10 ^ 19 := Nat.pow_le_pow_right (by decide) (by omega)
      have e7 : (10 : Nat) ^ 19 = 10000000000000000000 := by decide
      refine ⟨i + 1, ⟨by omega, ha⟩, by omega, Fits_mk (Le_cons rfl (Le_cons rfl (Le_d rfl (u64_eq ?_).symm (Le_cons rfl Le_nil)))) Pre_nil rfl rfl⟩
      show IntKind.u64.wrap (IntKind.u64.wrap (10 * ((dvl ((dg s).take i) : Nat) : Int)) + IntKind.u64.wrap (IntKind.u8.wrap ((((dg s).getD i 0).toNat : Int) - 48))) = _
      rw [e4, wrap_u64, wrap_u64, wrap_u64, wrap_u8]; omega
    · rename_i h4; rw [rdN_no (great_t h4 hb)]
    · rename_i h4; exact bl_eq (great_t h4 hb)
    · rename_i h4 h5 h6; rw [← hd] at h6; omega
    · rename_i h4 h5 h6; rw [← hd] at h6; omega
    · rename_i h4 h5 h6; rw [← hd] at h6; omega
    · rename_i h4 h5 h6; rw [← hd] at h6; omega
    · rename_i h4 h5 h6; rw [rdN_no (pos_no hp h4 h5 hb)]
    · rename_i h4 h5 h6; exact bl_eq (pos_no hp h4 h5 hb)
    · rename_i h4 h5 h6; obtain ⟨e1, e2⟩ := pos_ok hp h4 hi2 h5 hb; rw [rdN_yes e1, e2]
    · rename_i h4 h5 h6; exact bl_eq (pos_ok hp h4 hi2 h5 hb).1
  · rename_i h1; obtain ⟨hd, hp⟩ := dgC h1; rw [hd] at hb; rw [rdN_no (rd_short hb)]
  · rename_i h1; obtain ⟨hd, hp⟩ := dgC h1; rw [hd] at hb; exact bl_eq (rd_short hb)
  · rename_i h1 h3; obtain ⟨hd, hp⟩ := dgC h1; rw [hd] at hb; rw [rdN_no (rd_over hb)]
  · rename_i h1 h3; obtain ⟨hd, hp⟩ := dgC h1; rw [hd] at hb; exact bl_eq (rd_over hb)
  · rename_i h1 h3; obtain ⟨hd, hp⟩ := dgC h1; rw [hd] at hb
    refine awp_loopF (α := Nat) (fun i => i ≤ (dg s).length ∧ ((dg s).take i).all isDig = true)
      (fun i => [(0, .d (str s)), (4, .d (str (dg s))), (5, .d (u64 ((dvl ((dg s).take i) : Nat) : Int))), (6, .d (i64 (i : Int)))]) (fun _ => []) (fun i => (dg s).length - i) 0 ⟨Nat.zero_le _, rfl⟩
      (Fits_mk (Le_cons rfl (Le_d rfl (str_eq hd.symm) (Le_cons rfl (Le_cons rfl Le_nil)))) Pre_nil rfl rfl) ?_
    rintro i ⟨hi1, hi2⟩
    repeat' first
      | refine en_n ?_
      | refine awp_seq ?_
      | refine awp_region ?_
      | refine alex_nil ?_
      | refine w0 ?_
      | (apply Y_conv; exact rfl; (first | with_reducible exact si64 | with_reducible exact su64 | with_reducible exact su8 | with_reducible exact si32); (first | with_reducible exact ui64 | with_reducible exact uu64 | with_reducible exact uu8 | with_reducible exact ui32))
      | (apply Y_addw (k := .u64); exact rfl; exact rfl)
      | (apply Y_subw (k := .u64); exact rfl; exact rfl)
      | (apply Y_mulw (k := .u64); exact rfl; exact rfl)
      | (apply Y_idx_l; exact rfl; exact rfl; with_reducible exact ustr; omega)
      | (apply Y_len_l; exact rfl; with_reducible exact ustr)
      | (apply Y_subw (k := .u8); exact rfl; exact rfl)
      | (refine Y_call hb_back (back_ok _ (by omega)) (CoL_d rfl CoL_nil))
      | (refine Y_call hb_rShow (rShow_ok _) (CoL_d rfl CoL_nil))
      | (apply Y_neqs; exact rfl; exact rfl)
      | apply ay (hd := rfl)
      | (apply Y_move_d; exact rfl)
      | (apply Y_assign_d; exact rfl)
      | (apply Y_lss; exact rfl; exact rfl)
      | (apply Y_gtr; exact rfl; exact rfl)
      | (apply Y_add; exact rfl; exact rfl)
      | (apply Y_pick_t; exact rfl; exact rfl)
      | (apply Y_pick_f; exact rfl; exact rfl)
      | (apply w1; exact rfl; exact rfl)
      | (apply k0 (hd := rfl); exact rfl; exact rfl)
      | (apply gD; exact rfl; exact rfl; (intro hb); rotate_left; (intro hb); rotate_right)
      | (apply awp_condD; exact rfl; (intro hb); rotate_left; (intro hb); rotate_right)
      | (apply awp_condT; exact rfl)
      | refine awp_block ?_
      | refine awp_skip ?_
      | refine awp_ret ?_
      | refine awp_exit ?_
      | refine en_r ?_
      | refine en_e ?_
      | refine eb_n ?_
      | refine eb_r ?_
      | refine eb_e ?_
      | refine rpost_ret ?_
      | (apply res2; exact rfl; exact rfl)
    · rename_i h4; rw [rdN_no (errD h4 (.inl hb))]
    · rename_i h4; exact bl_eq (errD h4 (.inl hb))
    · rename_i h4 h5; rw [rdN_no (errD h4 (.inr hb))]
    · rename_i h4 h5; exact bl_eq (errD h4 (.inr hb))
    · omega
    · rename_i h4 h5
      have hlt : i < (dg s).length := by omega
      have h5 : ¬ (((dg s).getD i 0).toNat : Int) < 48 := h5
      have hb2 : ¬ (((dg s).getD i 0).toNat : Int) > 57 := hb
      have e4 := dvl_take hlt
      have ha : ((dg s).take (i + 1)).all isDig = true := by
        rw [List.take_add_one, List.all_append, hi2, List.getElem?_eq_getElem hlt]
        have e3 : isDig ((dg s).getD i 0) = true := by simp only [isDig, Bool.and_eq_true, decide_eq_true_eq]; omega
        rw [List.getD_eq_getElem?_getD, List.getElem?_eq_getElem hlt] at e3
        simpa using e3
      have e5 := dvl_lt (i + 1) ((dg s).take (i + 1)) (by rw [List.length_take]; omega) ha
      have e6 : (10 : Nat) ^ (i + 1) ≤ 10 ^ 19 := Nat.pow_le_pow_right (by decide) (by omega)
      have e7 : (10 : Nat) ^ 19 = 10000000000000000000 := by decide
      refine ⟨i + 1, ⟨by omega, ha⟩, by omega, Fits_mk (Le_cons rfl (Le_cons rfl (Le_d rfl (u64_eq ?_).symm (Le_cons rfl Le_nil)))) Pre_nil rfl rfl⟩
      show IntKind.u64.wrap (IntKind.u64.wrap (10 * ((dvl ((dg s).take i) : Nat) : Int)) + IntKind.u64.wrap (IntKind.u8.wrap ((((dg s).getD i 0).toNat : Int) - 48))) = _
      rw [e4, wrap_u64, wrap_u64, wrap_u64, wrap_u8]; omega
    · rename_i h4; rw [rdN_no (great_t h4 hb)]
    · rename_i h4; exact bl_eq (great_t h4 hb)
    · rename_i h4 h5 h6; rw [← hd] at h6; omega
    · rename_i h4 h5 h6; rw [← hd] at h6; omega
    · rename_i h4 h5 h6; rw [← hd] at h6; omega
    · rename_i h4 h5 h6; rw [← hd] at h6; omega
    · rename_i h4 h5 h6; rw [rdN_no (pos_no hp h4 h5 hb)]
    · rename_i h4 h5 h6; exact bl_eq (pos_no hp h4 h5 hb)
    · rename_i h4 h5 h6; obtain ⟨e1, e2⟩ := pos_ok hp h4 hi2 h5 hb; rw [rdN_yes e1, e2]
    · rename_i h4 h5 h6; exact bl_eq (pos_ok hp h4 hi2 h5 hb).1
end Go.Proofs.YtbgomheagkcmaaaDoor
/- The token statements: may a token be? -/
namespace Go.Proofs.YtbgomheagkcmaaaDoor
open Go.Sx
attribute [local irreducible] hasBody Program.underlying Ylds astep alex alexE alexD awp PCall FCall RCall MCall QCall athen ablock ajump rpost fpost mpost

def namedF (p : UInt8 → Bool) (s : List UInt8) : Bool := allF isInner s && p (s.getD 0 0) && !isKey s
def rightF (t : Tk) : Bool :=
  if t.pos < 0 then false
  else if t.kind = 1 then decide (t.num = 0) && namedF isSmall t.text
  else if t.kind = 2 then decide (t.num = 0) && namedF isGreat t.text
  else if t.kind = 3 then decide (t.text = []) && decide (W t.num = t.num)
  else if t.kind = 4 then decide (t.num = 0) && decide (t.text.length ≤ 200)
  else if t.kind = 5 then decide (t.num = 0) && allF isSign t.text && !isKey t.text
  else if t.kind = 6 then decide (t.num = 0) && isKey t.text
  else false
theorem inner_low (c : UInt8) (h : c.toNat > 126) : isInner c = false := by
  simp only [isInner, isSmall, isGreat, isDigit, u8_eq, ← Bool.decide_or, show ((95 : UInt8).toNat : Int) = 95 from rfl, show ((39 : UInt8).toNat : Int) = 39 from rfl]
  rw [decide_eq_false_iff_not]; omega
theorem sign_low (c : UInt8) (h : c.toNat > 126) : isSign c = false := by
  refine sign_miss fun j hj e => ?_
  subst e
  have : ∀ k, k < 16 → (signL.getD k 0).toNat ≤ 126 := by decide
  have := this j hj
  omega
theorem all_long {p : UInt8 → Bool} {s : List UInt8} (h : allF p s = true) : 0 < s.length := by
  cases s with
  | nil => simp [allF] at h
  | cons => simp

abbrev Tk.cells (t : Tk) : List SV := [.d (i64 t.kind), .d (str t.text), .d (i64 t.num), .d (i64 t.pos)]

theorem Right1_ok (t : Tk) (f : FuncId) (p : UInt8 → Bool) (hb : hasBody Tryd.prog f = true) (hp : ∀ c, PCall Tryd.prog f [u8 c] (bl (p c))) :
    QCall Tryd.prog 35 [.clo f [], .ptr 0 0] [.box t.cells] (bl (namedF p t.text)) := by
  have hbf := hb; clear hb
  refine qcall_of Tryd.func35 rfl Tryd.ntmps35 Tryd.results35 rfl ?_
  intro wb St0
  repeat' first
    | refine en_n ?_
    | refine awp_seq ?_
    | refine awp_region ?_
    | refine alex_nil ?_
    | refine w0 ?_
    | (apply k1u (hd := rfl); exact rfl; exact rfl)
    | (apply Y_move_clo; exact rfl)
    | (apply Y_pclo (hb := hbf) (hc := hp (t.text.getD 0 0)); exact rfl)
    | (refine Y_qcall [] [] rfl rfl hb_all (all_ok _ isInner hb_inner inner_ok inner_low t.text) rfl ?_ rfl (by decide) rfl rfl rfl rfl; (repeat (refine SArgs_cons rfl ?_)); exact SArgs_nil)
    | (apply Y_call (hb := hb_Key) (hc := Key_ok t.text))
    | apply ay (hd := rfl)
    | (apply Y_move_d; exact rfl)
    | (apply Y_assign_d; exact rfl)
    | (apply Y_not; exact rfl)
    | (apply Y_pick_t; exact rfl; exact rfl)
    | (apply Y_pick_f; exact rfl; exact rfl)
    | (apply Y_field_p; exact rfl; exact (by first | with_reducible exact fo_0 | with_reducible exact fo_1 | with_reducible exact fo_2 | with_reducible exact fo_3))
    | (apply Y_load_p; exact rfl; exact (by first | with_reducible exact tc_str | with_reducible exact tc_int | with_reducible exact tc_kind | with_reducible exact tc_tok | with_reducible exact tc_u8s | with_reducible exact tc_toks | with_reducible exact tc_strs | with_reducible exact tc_bool | with_reducible exact tc_err | with_reducible exact tc_i64); exact rfl; exact rfl)
    | (apply w1; exact rfl; exact rfl)
    | (apply g1; exact rfl; exact rfl; (intro hb); rotate_left; (intro hb); rotate_right)
    | refine awp_ret ?_
    | refine rpost_ret ?_
    | (apply res1; exact rfl)
    | exact CoL_nil
    | refine CoL_d rfl ?_
  · have := all_long hb
    exact Y_idx_l (i := 0) rfl rfl (by with_reducible exact ustr) ⟨by omega, by omega⟩
  all_goals exact bl_is (by simp only [namedF, *]; first | rfl | simp)

set_option maxHeartbeats 4000000 in
theorem Right_ok (t : Tk) : PCall Tryd.prog 20 [t.av] (bl (rightF t)) := by
  refine pcall_of Tryd.func20 rfl Tryd.ntmps20 Tryd.results20 rfl ?_
  intro wb St0
  repeat' first
    | refine en_n ?_
    | refine awp_seq ?_
    | refine awp_region ?_
    | refine alex_nil ?_
    | refine w0 ?_
    | (apply kU (hd := rfl); exact rfl; exact rfl)
    | (apply k1u (hd := rfl); exact rfl; exact rfl)
    | (apply k0u (hd := rfl); exact rfl; exact rfl)
    | (apply Y_len_l; exact rfl; with_reducible exact ustr)
    | (apply Y_neqs; exact rfl; exact rfl)
    | (refine Y_qcall [0] [0] rfl rfl hb_Right1 (Right1_ok t _ isSmall hb_small small_ok) rfl ?_ rfl (by decide) rfl rfl rfl rfl; (repeat (refine SArgs_cons rfl ?_)); exact SArgs_nil)
    | (refine Y_qcall [0] [0] rfl rfl hb_Right1 (Right1_ok t _ isGreat hb_great great_ok) rfl ?_ rfl (by decide) rfl rfl rfl rfl; (repeat (refine SArgs_cons rfl ?_)); exact SArgs_nil)
    | (refine Y_qcall [] [] rfl rfl hb_all (all_ok _ isSign hb_sign sign_ok sign_low t.text) rfl ?_ rfl (by decide) rfl rfl rfl rfl; (repeat (refine SArgs_cons rfl ?_)); exact SArgs_nil)
    | (apply Y_call (hb := hb_Key) (hc := Key_ok t.text))
    | (refine Y_call hb_wWrap (wWrap_ok t.num) (CoL_d rfl CoL_nil))
    | (apply aBox (hd := rfl) (hro := rfl); exact rfl; exact rfl)
    | apply ay (hd := rfl)
    | (apply Y_move_d; exact rfl)
    | (apply Y_assign_d; exact rfl)
    | (apply Y_lss; exact rfl; exact rfl)
    | (apply Y_leq; exact rfl; exact rfl)
    | (apply Y_eql; exact rfl; exact rfl)
    | (apply Y_neq; exact rfl; exact rfl)
    | (apply Y_not; exact rfl)
    | (apply Y_pick_t; exact rfl; exact rfl)
    | (apply Y_pick_f; exact rfl; exact rfl)
    | (apply Y_move_clo; exact rfl)
    | (apply Y_assign_clo; exact rfl)
    | (apply Y_field_p; exact rfl; exact (by first | with_reducible exact fo_0 | with_reducible exact fo_1 | with_reducible exact fo_2 | with_reducible exact fo_3))
    | (apply Y_load_p; exact rfl; exact (by first | with_reducible exact tc_str | with_reducible exact tc_int | with_reducible exact tc_kind | with_reducible exact tc_tok | with_reducible exact tc_u8s | with_reducible exact tc_toks | with_reducible exact tc_strs | with_reducible exact tc_bool | with_reducible exact tc_err | with_reducible exact tc_i64); exact rfl; exact rfl)
    | (apply Y_mkf; exact rfl)
    | (apply w1; exact rfl; exact rfl)
    | (apply gD; exact rfl; exact rfl; (intro hb); rotate_left; (intro hb); rotate_right)
    | (apply g1; exact rfl; exact rfl; (intro hb); rotate_left; (intro hb); rotate_right)
    | (apply awp_condD; exact rfl; (intro hb); rotate_left; (intro hb); rotate_right)
    | (apply awp_condT; exact rfl)
    | (apply awp_condF; exact rfl)
    | refine awp_block ?_
    | refine awp_skip ?_
    | refine awp_ret ?_
    | refine awp_draw (by kernel_rfl) (by kernel_rfl) ?_
    | refine en_r ?_
    | refine eb_n ?_
    | refine eb_r ?_
    | refine rpost_ret ?_
    | (apply res1; exact rfl)
    | exact CoL_nil
    | refine CoL_d rfl ?_
  all_goals exact bl_is (by simp_all [rightF] <;> (rw [show decide (t.pos < 0) = false from decide_eq_false (by omega), Bool.not_false, Bool.true_and, decide_eq_decide]; omega))
end Go.Proofs.YtbgomheagkcmaaaDoor
/- The token statements: may a token be? (the document's) -/
namespace Go.Proofs.YtbgomheagkcmaaaDoor
open Go.Sx
attribute [local irreducible] hasBody Program.underlying Ylds astep alex alexE alexD awp PCall FCall RCall MCall QCall athen ablock ajump rpost fpost mpost

theorem nil_pos {s : List UInt8} (h : s ≠ []) : (0 : Int) < (s.length : Int) := by
  cases s with
  | nil => exact absurd rfl h
  | cons => simp
theorem u8_all {p : UInt8 → Prop} (h : ∀ n : Fin 256, p (UInt8.ofNat n.1)) (c : UInt8) : p c := by
  have := h ⟨c.toNat, c.toNat_lt⟩
  simpa using this
theorem isK_1 : ∀ c, isK c = 1 ↔ isSmall c = true := u8_all (by decide +kernel)
theorem isK_2 : ∀ c, isK c = 2 ↔ isGreat c = true := u8_all (by decide +kernel)
theorem btw14 : ∀ c, btw 1 4 c = isInner c := u8_all (by decide +kernel)
theorem btw55 : ∀ c, btw 5 5 c = isSign c := u8_all (by decide +kernel)
theorem span_all (p : UInt8 → Bool) (s : List UInt8) : spanF p s = s.length ↔ s.all p = true := by
  induction s with
  | nil => simp [spanF]
  | cons c s ih =>
    rw [spanF, List.all_cons]
    cases p c with
    | false => simp
    | true => simp [ih]
theorem while14 (s : List UInt8) : ((0 + spanF (btw 1 4) (s.drop 0) : Nat) : Int) = (s.length : Int) ↔ s.all isInner = true := by
  rw [← span_all, show btw 1 4 = isInner from funext btw14, List.drop_zero, Nat.zero_add]; omega
theorem while55 (s : List UInt8) : ((0 + spanF (btw 5 5) (s.drop 0) : Nat) : Int) = (s.length : Int) ↔ s.all isSign = true := by
  rw [← span_all, show btw 5 5 = isSign from funext btw55, List.drop_zero, Nat.zero_add]; omega

set_option maxHeartbeats 4000000 in
theorem rRight_ok (t : Tk) (hs : t.text.length ≤ 1000000) : PCall Tryd.prog 21 [t.av] (bl (rightF t)) := by
  refine pcall_of Tryd.func21 rfl Tryd.ntmps21 Tryd.results21 rfl ?_
  intro wb St0
  repeat' first
    | refine en_n ?_
    | refine awp_seq ?_
    | refine awp_region ?_
    | refine alex_nil ?_
    | refine w0 ?_
    | (apply k1u (hd := rfl); exact rfl; exact rfl)
    | (apply Y_len_l; exact rfl; with_reducible exact ustr)
    | (apply Y_eqs; exact rfl; exact rfl)
    | (apply Y_neqs; exact rfl; exact rfl)
    | (apply Y_call (hb := hb_rKey) (hc := rKey_ok t.text))
    | (apply Y_call (hb := hb_rWrap) (hc := rWrap_ok t.num))
    | (apply Y_call (hb := hb_is) (hc := is_ok (t.text.getD 0 0)))
    | (refine Y_call hb_while (while_ok t.text 0 1 4 hs (Nat.zero_le _)) (CoL_d rfl (CoL_d rfl (CoL_d rfl (CoL_d rfl CoL_nil)))))
    | (refine Y_call hb_while (while_ok t.text 0 5 5 hs (Nat.zero_le _)) (CoL_d rfl (CoL_d rfl (CoL_d rfl (CoL_d rfl CoL_nil)))))
    | (apply Y_idx_l (i := 0); exact rfl; exact rfl; with_reducible exact ustr; exact ⟨by omega, nil_pos (by assumption)⟩)
    | (apply aBox (hd := rfl) (hro := rfl); exact rfl; exact rfl)
    | apply ay (hd := rfl)
    | (apply Y_move_d; exact rfl)
    | (apply Y_assign_d; exact rfl)
    | (apply Y_lss; exact rfl; exact rfl)
    | (apply Y_leq; exact rfl; exact rfl)
    | (apply Y_eql; exact rfl; exact rfl)
    | (apply Y_not; exact rfl)
    | (apply Y_pick_t; exact rfl; exact rfl)
    | (apply Y_pick_f; exact rfl; exact rfl)
    | (apply Y_field_p; exact rfl; exact (by first | with_reducible exact fo_0 | with_reducible exact fo_1 | with_reducible exact fo_2 | with_reducible exact fo_3))
    | (apply Y_load_p; exact rfl; exact (by first | with_reducible exact tc_str | with_reducible exact tc_int | with_reducible exact tc_kind | with_reducible exact tc_tok | with_reducible exact tc_u8s | with_reducible exact tc_toks | with_reducible exact tc_strs | with_reducible exact tc_bool | with_reducible exact tc_err | with_reducible exact tc_i64); exact rfl; exact rfl)
    | (apply w1; exact rfl; exact rfl)
    | (apply k1 (hd := rfl); exact rfl; exact rfl)
    | (apply gD; exact rfl; exact rfl; (intro hb); rotate_left; (intro hb); rotate_right)
    | (apply awp_condD; exact rfl; (intro hb); rotate_left; (intro hb); rotate_right)
    | refine awp_block ?_
    | refine awp_skip ?_
    | refine awp_ret ?_
    | refine awp_draw (by kernel_rfl) (by kernel_rfl) ?_
    | refine en_r ?_
    | refine eb_n ?_
    | refine eb_r ?_
    | refine rpost_ret ?_
    | (apply res1; exact rfl)
    | exact CoL_nil
    | refine CoL_d rfl ?_
  all_goals refine bl_is ?_
  all_goals try simp only [while14, while55] at *
  all_goals try (have hp : (t.pos < 0) = False := eq_false (by assumption); simp only [rightF, hp, if_false])
  all_goals try simp_all [rightF, namedF, allF, isK_1, isK_2]
  all_goals first | omega | (obtain ⟨x, hx, hn⟩ := hb; intro h; rw [h x hx] at hn; cases hn)
end Go.Proofs.YtbgomheagkcmaaaDoor
/- The token statements: strings.Builder as a variable. -/
namespace Go.Proofs.YtbgomheagkcmaaaDoor
open Go.Sx Go.RowKit Go.Lib
attribute [local irreducible] hasBody Program.underlying Ylds astep alex alexE alexD awp PCall FCall RCall MCall QCall athen ablock ajump rpost fpost mpost

theorem bf_0 : fieldOff Tryd.prog 63 0 = some 0 := by kernel_rfl
theorem bf_1 : fieldOff Tryd.prog 63 1 = some 1 := by kernel_rfl
theorem tc_ad : tyCells Tryd.prog 61 = some (false, 1) := by kernel_rfl
theorem up_ad : Tryd.prog.underlying 61 = some (.pointer 63) := by kernel_rfl
theorem up_un : Tryd.prog.underlying 97 = some .unsafePointer := by kernel_rfl
theorem up_by : Tryd.prog.underlying 43 = some (.slice 5) := by kernel_rfl
theorem up_pb : Tryd.prog.underlying 89 = some (.pointer 5) := by kernel_rfl
theorem pe_ad : Tryd.prog.underlying 61 = some (.pointer (Tryd.prog.pointee 61)) := by kernel_rfl
theorem in_b : (Tryd.prog.info? 63).isSome = true := by kernel_rfl
theorem in_bz : ((Tryd.prog.info? 63).map fun i => Nat.blt 0 i.size) = some true := by kernel_rfl
theorem by_u8 : byteTy Tryd.prog 5 = true := by kernel_rfl
theorem noEsc_ok : noEsc Tryd.prog 81 := ⟨Tryd.f81, Tryd.func81, by kernel_rfl, by kernel_rfl, by kernel_rfl, by kernel_rfl⟩
theorem zo_bd : zeroOf Tryd.prog 63 = some [.pointer none, .slice none 0 0] := by kernel_rfl

def adS (u : Bool) : SV := match u with
  | true => .ptr 0 0
  | false => .d (.val (.pointer none))
abbrev bdOb (u : Bool) (l : List UInt8) : Ob := .bx none (some 63) [adS u, .buf 1 l.length]
abbrev rwOb (l : List UInt8) : Ob := .buf true 5 1 (bys l)

theorem lies : liesAt Tryd.prog Tryd.prog.depth 63 (2 / Tryd.prog.cellsOf 63) 0 63 1 = true := by kernel_rfl

theorem lies2 (n : Nat) (h : n = 2) : liesAt Tryd.prog Tryd.prog.depth 63 (n / Tryd.prog.cellsOf 63) 0 63 1 = true := by subst h; exact lies

theorem copyCheck_ok (u : Bool) (l : List UInt8) : MCall Tryd.prog 69 [.ptr 0 0] [bdOb u l, rwOb l] .top [bdOb true l, rwOb l] := by
  cases u <;> refine mcall_of Tryd.func69 rfl Tryd.ntmps69 Tryd.results69 rfl rfl rfl ?_
  all_goals intro wb St0 X fx
  all_goals skip
  repeat' first
    | refine en_n ?_
    | refine awp_seq ?_
    | refine awp_region ?_
    | refine alex_nil ?_
    | refine w0 ?_
    | (apply Y_nilc_p; exact rfl)
    | (apply Y_fromunsafe; exact rfl; exact rfl; with_reducible exact up_un; with_reducible exact up_ad; with_reducible exact in_b; exact lies2 _ rfl)
    | (apply Y_eqnil_n; exact rfl; exact rfl; with_reducible exact pe_ad)
    | (apply Y_eqnil_p; exact rfl; exact rfl; with_reducible exact pe_ad)
    | (apply Y_neqpp; exact rfl; exact rfl; with_reducible exact up_ad; with_reducible exact in_b)
    | (apply Y_tounsafe; exact rfl; exact rfl; exact rfl; with_reducible exact up_ad; with_reducible exact up_un; with_reducible exact in_bz)
    | (apply Y_noesc; exact rfl; with_reducible exact noEsc_ok)
    | apply ay (hd := rfl)
    | (apply Y_move_ptr; exact rfl)
    | (apply Y_field_p; exact rfl; exact (by first | with_reducible exact bf_0 | with_reducible exact bf_1 | with_reducible exact fo_0 | with_reducible exact fo_1 | with_reducible exact fo_2 | with_reducible exact fo_3))
    | (apply Y_load_p; exact rfl; exact (by first | with_reducible exact tc_ad | with_reducible exact tc_str | with_reducible exact tc_int | with_reducible exact tc_kind | with_reducible exact tc_tok | with_reducible exact tc_u8s | with_reducible exact tc_toks | with_reducible exact tc_strs | with_reducible exact tc_bool | with_reducible exact tc_err | with_reducible exact tc_i64); exact rfl; exact rfl)
    | (refine w0' ?_)
    | (apply aStore; exact rfl; exact rfl; exact rfl; exact (by first | with_reducible exact tc_ad | with_reducible exact tc_str | with_reducible exact tc_int | with_reducible exact tc_kind | with_reducible exact tc_tok | with_reducible exact tc_u8s | with_reducible exact tc_toks | with_reducible exact tc_strs | with_reducible exact tc_bool | with_reducible exact tc_err | with_reducible exact tc_i64); exact rfl; exact rfl; exact rfl; exact rfl)
    | (apply awp_condT; exact rfl)
    | (apply awp_condF; exact rfl)
    | refine awp_skip ?_
  all_goals exact mpost_nrm ⟨rfl, Fits_mk Le_nil (Pre_cons rfl rfl (Pre_cons rfl rfl Pre_nil)) rfl rfl⟩

theorem WriteString_ok (u : Bool) (out s : List UInt8) (hs : out.length + s.length ≤ 1000000000) : MCall Tryd.prog 51 [.ptr 0 0, .d (str s)] [bdOb u out, rwOb out] .top [bdOb true (out ++ s), rwOb (out ++ s)] := by
  cases u <;> refine mcall_of Tryd.func51 rfl Tryd.ntmps51 Tryd.results51 rfl rfl rfl ?_
  all_goals intro wb St0 X fx
  all_goals skip
  repeat' first
    | refine en_n ?_
    | refine awp_seq ?_
    | refine awp_region ?_
    | refine alex_nil ?_
    | refine w0 ?_
    | (apply Y_nilc_p; exact rfl)
    | (apply Y_len_l; exact rfl; with_reducible exact ustr)
    | (refine aMCall [0, 1] hb_copyCheck (copyCheck_ok false out) ?_ rfl rfl (by decide) rfl rfl rfl rfl rfl rfl ?_; (repeat (refine SArgs_cons rfl ?_)); exact SArgs_nil)
    | (refine aMCall [0, 1] hb_copyCheck (copyCheck_ok true out) ?_ rfl rfl (by decide) rfl rfl rfl rfl rfl rfl ?_; (repeat (refine SArgs_cons rfl ?_)); exact SArgs_nil)
    | (apply aAppS (l := out) (m := s) (mu := true) (id := 1) (hd := rfl) (hro := rfl); exact rfl; exact rfl; exact rfl; exact rfl; with_reducible exact up_by; with_reducible exact ustr; with_reducible exact by_u8; omega)
    | apply ay (hd := rfl)
    | (apply Y_move_d; exact rfl)
    | (apply Y_assign_d; exact rfl)
    | (apply Y_move_ptr; exact rfl)
    | (apply Y_field_p; exact rfl; exact (by first | with_reducible exact bf_0 | with_reducible exact bf_1 | with_reducible exact fo_0 | with_reducible exact fo_1 | with_reducible exact fo_2 | with_reducible exact fo_3))
    | (apply Y_load_p; exact rfl; exact (by first | with_reducible exact tc_ad | with_reducible exact tc_str | with_reducible exact tc_int | with_reducible exact tc_kind | with_reducible exact tc_tok | with_reducible exact tc_u8s | with_reducible exact tc_toks | with_reducible exact tc_strs | with_reducible exact tc_bool | with_reducible exact tc_err | with_reducible exact tc_i64); exact rfl; exact rfl)
    | (refine w0' ?_)
    | (apply aStore; exact rfl; exact rfl; exact rfl; exact (by first | with_reducible exact tc_ad | with_reducible exact tc_str | with_reducible exact tc_int | with_reducible exact tc_kind | with_reducible exact tc_tok | with_reducible exact tc_u8s | with_reducible exact tc_toks | with_reducible exact tc_strs | with_reducible exact tc_bool | with_reducible exact tc_err | with_reducible exact tc_i64); exact rfl; exact rfl; exact rfl; exact rfl)
    | refine awp_ret ?_
  all_goals exact mpost_ret ⟨rfl, Fits_mk Le_nil (Pre_cons rfl (by simp only [List.length_append]; rfl) (Pre_cons rfl rfl Pre_nil)) rfl rfl⟩

theorem bys_snoc (l : List UInt8) (c : UInt8) : bys l ++ [.val (.int .u8 c.toNat)] = bys (l ++ [c]) := by simp [bys]

theorem WriteByte_ok (u : Bool) (out : List UInt8) (c : UInt8) (hs : out.length ≤ 1000000000) : MCall Tryd.prog 50 [.ptr 0 0, .d (.val (.int .u8 (c.toNat : Int)))] [bdOb u out, rwOb out] (.d (.val .nilIface)) [bdOb true (out ++ [c]), rwOb (out ++ [c])] := by
  cases u <;> refine mcall_of Tryd.func50 rfl Tryd.ntmps50 Tryd.results50 rfl rfl rfl ?_
  all_goals intro wb St0 X fx
  all_goals skip
  repeat' first
    | refine en_n ?_
    | refine awp_seq ?_
    | refine awp_region ?_
    | refine alex_nil ?_
    | refine w0 ?_
    | (apply Y_nilc_p; exact rfl)
    | (refine aMCall [0, 1] hb_copyCheck (copyCheck_ok false out) ?_ rfl rfl (by decide) rfl rfl rfl rfl rfl rfl ?_; (repeat (refine SArgs_cons rfl ?_)); exact SArgs_nil)
    | (refine aMCall [0, 1] hb_copyCheck (copyCheck_ok true out) ?_ rfl rfl (by decide) rfl rfl rfl rfl rfl rfl ?_; (repeat (refine SArgs_cons rfl ?_)); exact SArgs_nil)
    | (apply aApp (id := 1) (n := out.length) (mu := true) (m := 1) (xs := bys out) (ys := [.val (.int .u8 (c.toNat : Int))]) (hd := rfl) (hro := rfl); exact rfl; exact rfl; (first | exact Co_bb rfl rfl rfl | exact Co_dd rfl); exact (bys_len _).symm; exact rfl; with_reducible exact ety_u8s; with_reducible exact es_u8s; with_reducible exact zl_u8; with_reducible exact by_u8s; exact sz_lit rfl; omega)
    | apply ay (hd := rfl)
    | (apply Y_move_d; exact rfl)
    | (apply Y_assign_d; exact rfl)
    | (apply Y_move_ptr; exact rfl)
    | (apply Y_field_p; exact rfl; exact (by first | with_reducible exact bf_0 | with_reducible exact bf_1 | with_reducible exact fo_0 | with_reducible exact fo_1 | with_reducible exact fo_2 | with_reducible exact fo_3))
    | (apply Y_load_p; exact rfl; exact (by first | with_reducible exact tc_ad | with_reducible exact tc_str | with_reducible exact tc_int | with_reducible exact tc_kind | with_reducible exact tc_tok | with_reducible exact tc_u8s | with_reducible exact tc_toks | with_reducible exact tc_strs | with_reducible exact tc_bool | with_reducible exact tc_err | with_reducible exact tc_i64); exact rfl; exact rfl)
    | (apply Y_lit1; exact (by first | with_reducible exact ety_toks | with_reducible exact ety_strs | with_reducible exact ety_u8s); exact (by first | with_reducible exact es_toks | with_reducible exact es_strs | with_reducible exact es_u8s); exact (by first | with_reducible exact zs_tok | with_reducible exact zs_str | with_reducible exact zs_i64 | with_reducible exact zs_u8); exact rfl; exact rfl; (first | exact CoL_d rfl CoL_nil | exact CoL_b rfl rfl rfl CoL_nil | exact CoL_n rfl CoL_nil); exact rfl)
    | (refine w0' ?_)
    | (apply aStore; exact rfl; exact rfl; exact rfl; exact (by first | with_reducible exact tc_ad | with_reducible exact tc_str | with_reducible exact tc_int | with_reducible exact tc_kind | with_reducible exact tc_tok | with_reducible exact tc_u8s | with_reducible exact tc_toks | with_reducible exact tc_strs | with_reducible exact tc_bool | with_reducible exact tc_err | with_reducible exact tc_i64); exact rfl; exact rfl; exact rfl; exact rfl)
    | refine awp_ret ?_
  all_goals exact mpost_ret (Fits_mk (Le_d rfl rfl Le_nil) (Pre_cons rfl (by simp only [List.length_append]; rfl) (Pre_buf rfl rfl (bys_snoc _ _).symm Pre_nil)) rfl rfl)

theorem String_ok (u : Bool) (out : List UInt8) : MCall Tryd.prog 52 [.ptr 0 0] [bdOb u out, rwOb out] (.d (str out)) [bdOb u out, .gone] := by
  cases out with
  | nil =>
    cases u <;> refine mcall_of Tryd.func52 rfl Tryd.ntmps52 Tryd.results52 rfl rfl rfl ?_
    all_goals intro wb St0 X fx
    all_goals skip
    repeat' first
      | refine en_n ?_
      | refine awp_seq ?_
      | refine awp_region ?_
      | refine alex_nil ?_
      | refine w0 ?_
      | (apply Y_nilc_p; exact rfl)
      | (refine Y_sdata0 (id := 1) (n := 0) rfl rfl rfl up_pb)
      | (refine Y_ustr0p rfl rfl)
      | apply ay (hd := rfl)
      | (apply Y_assign_d; exact rfl)
      | (apply Y_len_buf; exact rfl; exact (by first | with_reducible exact et_toks | with_reducible exact et_strs | with_reducible exact et_u8s))
      | (apply Y_move_ptr; exact rfl)
      | (apply Y_field_p; exact rfl; exact (by first | with_reducible exact bf_0 | with_reducible exact bf_1 | with_reducible exact fo_0 | with_reducible exact fo_1 | with_reducible exact fo_2 | with_reducible exact fo_3))
      | (apply Y_load_p; exact rfl; exact (by first | with_reducible exact tc_ad | with_reducible exact tc_str | with_reducible exact tc_int | with_reducible exact tc_kind | with_reducible exact tc_tok | with_reducible exact tc_u8s | with_reducible exact tc_toks | with_reducible exact tc_strs | with_reducible exact tc_bool | with_reducible exact tc_err | with_reducible exact tc_i64); exact rfl; exact rfl)
      | refine awp_ret ?_
      | refine awp_draw (by kernel_rfl) (by kernel_rfl) ?_
    all_goals exact mpost_ret (Fits_mk (Le_cons rfl Le_nil) (Pre_cons rfl rfl (Pre_gone rfl Pre_nil)) rfl rfl)
  | cons c l =>
    cases u <;> refine mcall_of Tryd.func52 rfl Tryd.ntmps52 Tryd.results52 rfl rfl rfl ?_
    all_goals intro wb St0 X fx
    all_goals skip
    repeat' first
      | refine en_n ?_
      | refine awp_seq ?_
      | refine awp_region ?_
      | refine alex_nil ?_
      | refine w0 ?_
      | (apply Y_nilc_p; exact rfl)
      | (refine Y_sdata1 (id := 1) (n := (c :: l).length) (l := c :: l) rfl rfl rfl up_pb (by simp))
      | (refine a_bar (by kernel_rfl) ?_; refine aUStr (id := 1) (l := c :: l) rfl rfl rfl (by simp) up_pb (by kernel_rfl) rfl rfl ?_)
      | apply ay (hd := rfl)
      | (apply Y_assign_d; exact rfl)
      | (apply Y_len_buf; exact rfl; exact (by first | with_reducible exact et_toks | with_reducible exact et_strs | with_reducible exact et_u8s))
      | (apply Y_move_ptr; exact rfl)
      | (apply Y_field_p; exact rfl; exact (by first | with_reducible exact bf_0 | with_reducible exact bf_1 | with_reducible exact fo_0 | with_reducible exact fo_1 | with_reducible exact fo_2 | with_reducible exact fo_3))
      | (apply Y_load_p; exact rfl; exact (by first | with_reducible exact tc_ad | with_reducible exact tc_str | with_reducible exact tc_int | with_reducible exact tc_kind | with_reducible exact tc_tok | with_reducible exact tc_u8s | with_reducible exact tc_toks | with_reducible exact tc_strs | with_reducible exact tc_bool | with_reducible exact tc_err | with_reducible exact tc_i64); exact rfl; exact rfl)
      | refine awp_ret ?_
      | refine awp_draw (by kernel_rfl) (by kernel_rfl) ?_
    all_goals exact mpost_ret (Fits_mk (Le_cons rfl Le_nil) (Pre_cons rfl rfl (Pre_cons rfl rfl Pre_nil)) rfl rfl)

end Go.Proofs.YtbgomheagkcmaaaDoor
/- The token statements: bits of a byte. -/
namespace Go.Proofs.YtbgomheagkcmaaaDoor
open Go.Sx

section
variable {P : Program} {η : List Ob} {σ : Sl} {dst : Option Nat} {ty : TypeId} {pos : String} {after : Array Edge} {gd : Option (Nat × Bool)} {t yt : TypeId} {x y : Operand}
theorem Y_and {k : IntKind} {m n : Int} (r : Int) (hx : oval σ x = .d (.val (.int k m))) (hy : oval σ y = .d (.val (.int k n))) (hr : k.wrap ((BitVec.ofInt k.bits m &&& BitVec.ofInt k.bits n).toNat : Int) = r) : Ylds P η σ ⟨dst, .binOp .and t x y yt, ty, pos, after, gd⟩ (.d (.val (.int k r))) :=
  Y_bin hx hy fun w => by subst hr; simp [eqGuard_and, binOp, Op.intBits]
theorem Y_or {k : IntKind} {m n : Int} (r : Int) (hx : oval σ x = .d (.val (.int k m))) (hy : oval σ y = .d (.val (.int k n))) (hr : k.wrap ((BitVec.ofInt k.bits m ||| BitVec.ofInt k.bits n).toNat : Int) = r) : Ylds P η σ ⟨dst, .binOp .or t x y yt, ty, pos, after, gd⟩ (.d (.val (.int k r))) :=
  Y_bin hx hy fun w => by subst hr; simp [eqGuard_or, binOp, Op.intBits]
end
section
variable {P : Program} {η : List Ob} {σ : Sl} {dst : Option Nat} {ty : TypeId} {pos : String} {after : Array Edge} {gd : Option (Nat × Bool)} {t yt : TypeId} {x y z : Operand}
theorem shr4 : ∀ c : UInt8, (c.toNat : Int).fdiv (2 ^ min (4 : Int).toNat IntKind.u8.bits) = ((c.toNat / 16 : Nat) : Int) := u8_all (by decide +kernel)
theorem Y_shr4 {c : UInt8} {k' : IntKind} (hx : oval σ x = .d (.val (.int .u8 (c.toNat : Int)))) (hy : oval σ y = .d (.val (.int k' 4))) : Ylds P η σ ⟨dst, .binOp .shr t x y yt, ty, pos, after, gd⟩ (.d (.val (.int .u8 ((c.toNat / 16 : Nat) : Int)))) := by
  rw [← shr4]; exact Y_shr hx hy (by decide)
theorem Y_inc8 {a : Nat} (ha : a < 16) (hx : oval σ x = .d (.val (.int .u8 (a : Int)))) (hy : oval σ y = .d (.val (.int .u8 1))) : Ylds P η σ ⟨dst, .binOp .add t x y yt, ty, pos, after, gd⟩ (.d (.val (.int .u8 ((a + 1 : Nat) : Int)))) := by
  have h := Y_addw (P := P) (η := η) (dst := dst) (ty := ty) (pos := pos) (after := after) (gd := gd) (t := t) (yt := yt) hx hy
  rwa [wrap_u8, show ((a : Int) + 1) % 256 = ((a + 1 : Nat) : Int) by omega] at h
def hxL : List UInt8 := [48, 49, 50, 51, 52, 53, 54, 55, 56, 57, 97, 98, 99, 100, 101, 102]
theorem hx_take : ∀ a : Fin 16, (hxL.drop ((a.1 : Nat) : Int).toNat).take (((a.1 + 1 : Nat) : Int).toNat - ((a.1 : Nat) : Int).toNat) = [hexD a.1] := by decide
theorem Y_hexs {a : Nat} {k k' : IntKind} (ha : a < 16) (hx : oval σ x = .d (str hxL)) (hy : oval σ y = .d (.val (.int k (a : Int)))) (hz : oval σ z = .d (.val (.int k' ((a + 1 : Nat) : Int)))) (hu : P.underlying t = some .string) : Ylds P η σ ⟨dst, .slice t x (some y) (some z) none, ty, pos, after, gd⟩ (.d (str [hexD a])) := by
  have h := Y_sub_l (P := P) (η := η) (dst := dst) (ty := ty) (pos := pos) (after := after) (gd := gd) hx hy hz hu ⟨by omega, by omega, by show _ ≤ ((16 : Nat) : Int); omega⟩
  rwa [hx_take ⟨a, ha⟩] at h
end
theorem and15 : ∀ c : UInt8, IntKind.u8.wrap ((BitVec.ofInt IntKind.u8.bits (c.toNat : Int) &&& BitVec.ofInt IntKind.u8.bits 15).toNat : Int) = ((c.toNat % 16 : Nat) : Int) := u8_all (by decide +kernel)
theorem or16 (a b : Nat) (ha : a < 16) (hb : b < 16) : IntKind.i64.wrap ((BitVec.ofInt IntKind.i64.bits ((16 * a : Nat) : Int) ||| BitVec.ofInt IntKind.i64.bits (b : Int)).toNat : Int) = ((16 * a + b : Nat) : Int) := by
  have : ∀ (a b : Fin 16), IntKind.i64.wrap ((BitVec.ofInt IntKind.i64.bits ((16 * a.1 : Nat) : Int) ||| BitVec.ofInt IntKind.i64.bits (b.1 : Int)).toNat : Int) = ((16 * a.1 + b.1 : Nat) : Int) := by decide +kernel
  exact this ⟨a, ha⟩ ⟨b, hb⟩
end Go.Proofs.YtbgomheagkcmaaaDoor
/- The token statements: a text as it is written. -/
namespace Go.Proofs.YtbgomheagkcmaaaDoor
open Go.Sx Go.RowKit Go.Lib
attribute [local irreducible] hasBody Program.underlying Ylds astep alex alexE alexD awp PCall FCall RCall MCall QCall athen ablock ajump rpost fpost mpost

def qp (s : List UInt8) (i : Nat) : List UInt8 := 34 :: (s.take i).flatMap quoteC
theorem quoteC_len (c : UInt8) : (quoteC c).length ≤ 4 := by
  unfold quoteC
  repeat' split
  all_goals simp
theorem flat_len (s : List UInt8) : (s.flatMap quoteC).length ≤ 4 * s.length := by
  induction s with
  | nil => simp
  | cons c s ih => have := quoteC_len c; simp only [List.flatMap_cons, List.length_append, List.length_cons]; omega
theorem qp_len (s : List UInt8) (i : Nat) : (qp s i).length ≤ 1 + 4 * s.length := by
  have := flat_len (s.take i)
  have h2 : (s.take i).length ≤ s.length := by rw [List.length_take]; omega
  simp only [qp, List.length_cons]; omega
theorem qp_step {s : List UInt8} {i : Nat} (h : i < s.length) : qp s (i + 1) = qp s i ++ quoteC (s.getD i 0) := by
  have e : s.getD i 0 = s[i] := by rw [List.getD_eq_getElem?_getD, List.getElem?_eq_getElem h]; rfl
  rw [qp, qp, List.take_add_one, List.getElem?_eq_getElem h, List.flatMap_append, e]; simp
theorem q_next {s l r : List UInt8} {i : Nat} (h : i < s.length) (hq : qp s i = l) (hr : quoteC (s.getD i 0) = r) : l ++ r = qp s (i + 1) := by rw [qp_step h, hq, hr]
theorem q_end {s : List UInt8} : qp s s.length ++ [34] = quoteF s := by rw [qp, List.take_length]; rfl
theorem take1 {s : List UInt8} {i : Nat} (h : i < s.length) : (s.drop (Int.toNat (i : Int))).take (Int.toNat ((i : Int) + 1) - Int.toNat (i : Int)) = [s.getD i 0] := by
  rw [show Int.toNat (i : Int) = i by omega, show Int.toNat ((i : Int) + 1) - i = 1 by omega, List.drop_eq_getElem_cons h, List.take_succ_cons, List.take_zero, List.getD_eq_getElem?_getD, List.getElem?_eq_getElem h]; rfl
theorem c_eq {c : UInt8} (d : UInt8) (h : (c.toNat : Int) = (d.toNat : Int)) : c = d := UInt8.toNat_inj.1 (by omega)

theorem qC_a {c : UInt8} (h : (c.toNat : Int) = 34) : quoteC c = [92] ++ [c] := by rw [quoteC, if_pos (.inl (c_eq 34 h))]; rfl
theorem qC_b {c : UInt8} (h : (c.toNat : Int) = 92) : quoteC c = [92] ++ [c] := by rw [quoteC, if_pos (.inr (c_eq 92 h))]; rfl
theorem qC_n {c : UInt8} (h : (c.toNat : Int) = 10) : quoteC c = [92, 110] := by rw [c_eq 10 h]; rfl
theorem qC_no {c : UInt8} (h1 : ¬ (c.toNat : Int) = 34) (h2 : ¬ (c.toNat : Int) = 92) (h3 : ¬ (c.toNat : Int) = 10) : quoteC c = if c.toNat < 32 ∨ c.toNat > 126 then [92, 120, hexD (c.toNat / 16), hexD (c.toNat % 16)] else [c] := by
  rw [quoteC, if_neg, if_neg]
  · rintro rfl; exact h3 rfl
  · rintro (rfl | rfl)
    · exact h1 rfl
    · exact h2 rfl
theorem qC_x {c : UInt8} (h1 : ¬ (c.toNat : Int) = 34) (h2 : ¬ (c.toNat : Int) = 92) (h3 : ¬ (c.toNat : Int) = 10) (h4 : (c.toNat : Int) < 32 ∨ (c.toNat : Int) > 126) : quoteC c = [92, 120] ++ [hexD (c.toNat / 16)] ++ [hexD (c.toNat % 16)] := by
  rw [qC_no h1 h2 h3, if_pos (by omega)]; rfl
theorem qC_p {c : UInt8} (h1 : ¬ (c.toNat : Int) = 34) (h2 : ¬ (c.toNat : Int) = 92) (h3 : ¬ (c.toNat : Int) = 10) (h4 : ¬ ((c.toNat : Int) < 32 ∨ (c.toNat : Int) > 126)) : quoteC c = [c] := by
  rw [qC_no h1 h2 h3, if_neg (by omega)]
theorem q_fits {s l r : List UInt8} {i : Nat} {σ : Sl} {η : List Ob} (h : i < s.length) (hq : qp s i = l) (hr : quoteC (s.getD i 0) = r) (hη : η = [bdOb true (l ++ r), rwOb (l ++ r)])
    (h0 : get σ 0 = .d (str s)) (h3 : get σ 3 = .ptr 0 0) (h8 : get σ 8 = .d (i64 (s.length : Int))) (h9 : get σ 9 = .d (i64 ((i : Int) + 1))) :
    ∃ y : Nat, y ≤ s.length ∧ s.length - y < s.length - i ∧ Fits [(0, .d (str s)), (3, .ptr 0 0), (8, .d (i64 (s.length : Int))), (9, .d (i64 (y : Int)))] [bdOb true (qp s y), rwOb (qp s y)] σ η := by
  subst hη
  refine ⟨i + 1, by omega, by omega, ?_⟩
  rw [← q_next h hq hr]
  exact Fits_mk (Le_cons h0 (Le_cons h3 (Le_cons h8 (Le_cons h9 Le_nil)))) (Pre_cons rfl rfl (Pre_cons rfl rfl Pre_nil)) rfl rfl
set_option maxHeartbeats 4000000 in
theorem Quote_ok (s : List UInt8) (hs : s.length ≤ 1000000) : PCall Tryd.prog 26 [str s] (str (quoteF s)) := by
  refine pcall_of Tryd.func26 rfl Tryd.ntmps26 Tryd.results26 rfl ?_
  intro wb St0
  repeat' first
    | (refine awp_cellbufn 0 1 true 5 1 rfl rfl rfl ?_)
    | (apply aAllocT (hd := rfl) (hro := rfl); with_reducible exact zo_bd)
    | refine en_n ?_
    | refine awp_seq ?_
    | refine awp_region ?_
    | refine alex_nil ?_
    | refine w0 ?_
    | (apply Y_len_l; exact rfl; with_reducible exact ustr)
    | (refine aMCall [0, 1] hb_WriteByte (WriteByte_ok false [] 34 (by simp)) ?_ rfl rfl (by decide) rfl rfl rfl rfl rfl rfl ?_; (repeat (refine SArgs_cons rfl ?_)); exact SArgs_nil)
    | apply ay (hd := rfl)
    | (apply Y_move_d; exact rfl)
    | (apply Y_assign_d; exact rfl)
    | refine awp_block ?_
  refine awp_loopF (α := Nat) (fun i => i ≤ s.length) (fun i => [(0, .d (str s)), (3, .ptr 0 0), (8, .d (i64 (s.length : Int))), (9, .d (i64 (i : Int)))]) (fun i => [bdOb true (qp s i), rwOb (qp s i)]) (fun i => s.length - i) 0 (Nat.zero_le _)
      (Fits_mk (Le_cons rfl (Le_cons rfl (Le_cons rfl (Le_cons rfl Le_nil)))) (Pre_cons rfl rfl (Pre_cons rfl rfl Pre_nil)) rfl rfl) ?_
  rintro i hi
  have hl := qp_len s i
  generalize hq : qp s i = l at hl ⊢
  have hc : (s.getD (Int.toNat (i : Int)) 0).toNat < 256 := UInt8.toNat_lt _
  repeat' first
    | refine en_n ?_
    | refine awp_seq ?_
    | refine awp_region ?_
    | refine alex_nil ?_
    | refine w0 ?_
    | (apply Y_cat_l; exact rfl; exact rfl; simp only [List.length_append, List.length_take, List.length_drop, List.length_cons, List.length_nil]; omega)
    | (apply Y_idx_l; exact rfl; exact rfl; with_reducible exact ustr; (first | assumption | omega))
    | (apply Y_sub_l; exact rfl; exact rfl; exact rfl; with_reducible exact ustr; (first | assumption | omega))
    | (apply Y_eqlT; exact rfl; exact rfl; first | assumption | omega)
    | (refine Y_shr4 rfl rfl)
    | (refine Y_and _ rfl rfl (and15 _))
    | (refine Y_inc8 (by omega) rfl rfl)
    | (refine Y_hexs (by omega) rfl rfl rfl ustr)
    | (refine aMCall [0, 1] hb_WriteString (WriteString_ok true l ([92] ++ (s.drop (Int.toNat (i : Int))).take (Int.toNat ((i : Int) + 1) - Int.toNat (i : Int))) (by simp; omega)) ?_ rfl rfl (by decide) rfl rfl rfl rfl rfl rfl ?_; (repeat (refine SArgs_cons rfl ?_)); exact SArgs_nil)
    | (refine a_bar (by kernel_rfl) ?_; refine aMCall [0, 1] hb_WriteString (WriteString_ok true l ([92, 120] ++ [hexD ((s.getD i 0).toNat / 16)] ++ [hexD ((s.getD i 0).toNat % 16)]) (by simp; omega)) ?_ rfl rfl (by decide) rfl rfl rfl rfl rfl rfl ?_; (repeat (refine SArgs_cons rfl ?_)); exact SArgs_nil)
    | (refine aMCall [0, 1] hb_WriteString (WriteString_ok true l [92, 110] (by simp; omega)) ?_ rfl rfl (by decide) rfl rfl rfl rfl rfl rfl ?_; (repeat (refine SArgs_cons rfl ?_)); exact SArgs_nil)
    | (refine aMCall [0, 1] hb_WriteByte (WriteByte_ok true l (s.getD i 0) (by omega)) ?_ rfl rfl (by decide) rfl rfl rfl rfl rfl rfl ?_; (repeat (refine SArgs_cons rfl ?_)); exact SArgs_nil)
    | (refine aMCall [0, 1] hb_WriteByte (WriteByte_ok true l 34 (by omega)) ?_ rfl rfl (by decide) rfl rfl rfl rfl rfl rfl ?_; (repeat (refine SArgs_cons rfl ?_)); exact SArgs_nil)
    | (refine aMCall [0, 1] hb_String (String_ok true (l ++ [34])) ?_ rfl rfl (by decide) rfl rfl rfl rfl rfl rfl ?_; (repeat (refine SArgs_cons rfl ?_)); exact SArgs_nil)
    | apply ay (hd := rfl)
    | (apply Y_move_d; exact rfl)
    | (apply Y_assign_d; exact rfl)
    | (apply Y_lss; exact rfl; exact rfl)
    | (apply Y_gtr; exact rfl; exact rfl)
    | (apply Y_eql; exact rfl; exact rfl)
    | (apply Y_add; exact rfl; exact rfl)
    | (apply Y_pick_t; exact rfl; exact rfl)
    | (apply Y_pick_f; exact rfl; exact rfl)
    | (apply w1; exact rfl; exact rfl)
    | (apply k0 (hd := rfl); exact rfl; exact rfl)
    | (apply gD; exact rfl; exact rfl; (intro hb); rotate_left; (intro hb); rotate_right)
    | (apply awp_condD; exact rfl; (intro hb); rotate_left; (intro hb); rotate_right)
    | (apply awp_condT; exact rfl)
    | refine awp_block ?_
    | refine awp_skip ?_
    | refine awp_ret ?_
    | refine awp_exit ?_
    | refine awp_draw (by kernel_rfl) (by kernel_rfl) ?_
    | refine en_e ?_
    | refine eb_n ?_
    | refine eb_e ?_
    | refine rpost_ret ?_
    | (apply res1; exact rfl)
  all_goals try omega
  · exact q_fits (by omega) hq (by rw [take1 (by omega)]; exact qC_a hb) rfl rfl rfl rfl rfl
  · exact q_fits (by omega) hq (by rw [take1 (by omega)]; exact qC_b hb) rfl rfl rfl rfl rfl
  · exact q_fits (by omega) hq (qC_n hb) rfl rfl rfl rfl rfl
  · exact q_fits (by omega) hq (qC_x (c := s.getD (Int.toNat (i : Int)) 0) (by omega) (by omega) (by omega) (by omega)) rfl rfl rfl rfl rfl
  · exact q_fits (by omega) hq (qC_x (c := s.getD (Int.toNat (i : Int)) 0) (by omega) (by omega) (by omega) (by omega)) rfl rfl rfl rfl rfl
  · exact q_fits (by omega) hq (qC_p (c := s.getD (Int.toNat (i : Int)) 0) (by omega) (by omega) (by omega) (by omega)) rfl rfl rfl rfl rfl
  · rw [← hq, show i = s.length by omega, q_end]
end Go.Proofs.YtbgomheagkcmaaaDoor
/- The token statements: bytes as a text; the document's Quote; a token's word. -/
namespace Go.Proofs.YtbgomheagkcmaaaDoor
open Go.Sx Go.RowKit Go.Lib

section
variable {P : Program} {η : List Ob} {σ : Sl} {dst : Option Nat} {ty : TypeId} {pos : String} {after : Array Edge} {gd : Option (Nat × Bool)} {t yt : TypeId} {x y z : Operand}
/-- a row of bytes, whatever holds it, as a text -/
theorem Y_b2sc {e src tdst : TypeId} {l : List UInt8} (hc : Co η (oval σ x) (.slice (bys l))) (hs : P.underlying src = some (.slice e)) (he : P.underlying e = some (.int .u8)) (hd : P.underlying tdst = some .string) :
    Ylds P η σ ⟨dst, .convert src tdst x, ty, pos, after, gd⟩ (.d (str l)) := by
  refine Ylds.same fun g w a hi h => ?_
  have h1 := Co.rep hi (h x (by simp [Op.operands])) hc
  generalize hv : a.eval x = v at h1
  cases h1 with
  | slice ad len cap sz _ us hlen hcap hm hsz hus h1c hcell hr =>
    rw [bys_len] at hlen hcell
    have hul : us.length = l.length := by rw [hus, bys_flats, bys_len]
    cases ad with
    | none =>
      have hl : l = [] := by
        cases l with
        | nil => rfl
        | cons c r => obtain ⟨ad, h2, _⟩ := hcell (by simp); cases h2
      subst hl
      refine ⟨_, ?_, .val _⟩
      simp only [execOp, hv, Sem.run_bind, run_convert_bytes_string w src tdst e none len cap hs he hd]
      rfl
    | some ad =>
      have hc' : ∀ (j : Nat) (u : Value), us[j]? = some u → w.cell? (ad.add j) = some u := fun j u hj => by
        have hjl := (List.getElem?_eq_some_iff.1 hj).1
        obtain ⟨ad', h2, h3⟩ := hcell (by omega)
        cases h2; exact (h3 j u hj).2
      have eus : us = (l.map fun b => (b.toNat : Int)).map (Value.int .u8) := by
        refine List.ext_getElem? fun j => ?_
        rcases Nat.lt_or_ge j l.length with hj | hj
        · have e1 : us[j]? = some (us[j]'(by omega)) := List.getElem?_eq_getElem (by omega)
          have e2 : (flats (bys l))[j]? = some (.val (.int .u8 (l[j]).toNat)) := by rw [bys_flats, bys, List.getElem?_map, List.getElem?_eq_getElem hj]; rfl
          rw [e1, RepD.val_eq (hr j _ _ e1 e2), List.getElem?_map, List.getElem?_map, List.getElem?_eq_getElem hj]; rfl
        · rw [List.getElem?_eq_none (by omega), List.getElem?_eq_none (by simp; omega)]
      have hld := run_loadCells_list (P := P) w ad us hc'
      refine ⟨_, ?_, .val _⟩
      have hlen' : len = us.length := by rw [hlen, hul]
      simp only [execOp, hv, Sem.run_bind, run_convert_bytes_string w src tdst e (some ad) len cap hs he hd]
      rw [run_bytesToString w ad len cap (l.map fun b => (b.toNat : Int)) (by rw [hlen', hld, eus])]
      simp only [Result.andThen_ok, Sem.run_pure, foldl_bytes]
      have : l.map ((fun n : Int => UInt8.ofNat n.toNat) ∘ fun b : UInt8 => (b.toNat : Int)) = l := by
        conv => rhs; rw [← List.map_id l]
        refine List.map_congr_left fun b _ => ?_
        simp
      simp [this]
theorem quo16 : ∀ c : UInt8, IntKind.i64.wrap ((c.toNat : Int).tdiv 16) = ((c.toNat / 16 : Nat) : Int) := u8_all (by decide +kernel)
theorem rem16 : ∀ c : UInt8, (c.toNat : Int).tmod 16 = ((c.toNat % 16 : Nat) : Int) := u8_all (by decide +kernel)
theorem Y_quo16 {c : UInt8} (hx : oval σ x = .d (.val (.int .i64 (c.toNat : Int)))) (hy : oval σ y = .d (.val (.int .i64 16))) : Ylds P η σ ⟨dst, .binOp .quo t x y yt, ty, pos, after, gd⟩ (.d (.val (.int .i64 ((c.toNat / 16 : Nat) : Int)))) := by
  rw [← quo16]; exact Y_quo hx hy (by decide)
theorem Y_rem16 {c : UInt8} (hx : oval σ x = .d (.val (.int .i64 (c.toNat : Int)))) (hy : oval σ y = .d (.val (.int .i64 16))) : Ylds P η σ ⟨dst, .binOp .rem t x y yt, ty, pos, after, gd⟩ (.d (.val (.int .i64 ((c.toNat % 16 : Nat) : Int)))) := by
  rw [← rem16]; exact Y_rem hx hy (by decide)
theorem Y_u8int {c : UInt8} {src tdst : TypeId} (hx : oval σ x = .d (u8 c)) (hs : (P.underlying src).isSome = true) (hd : P.underlying tdst = some (.int .i64)) : Ylds P η σ ⟨dst, .convert src tdst x, ty, pos, after, gd⟩ (.d (i64 (c.toNat : Int))) := by
  have h := Y_conv (P := P) (η := η) (dst := dst) (ty := ty) (pos := pos) (after := after) (gd := gd) hx hs hd
  have := c.toNat_lt
  rwa [wrap64_in (by omega) (by omega)] at h
theorem hx_get : ∀ a : Fin 16, hxL.getD a.1 0 = hexD a.1 := by decide
theorem Y_hexi {a : Nat} (ha : a < 16) (hx : oval σ x = .d (str hxL)) (hy : oval σ y = .d (.val (.int .i64 (a : Int)))) (hu : P.underlying t = some .string) : Ylds P η σ ⟨dst, .index t x y, ty, pos, after, gd⟩ (.d (u8 (hexD a))) := by
  have h := Y_idx_l (P := P) (η := η) (dst := dst) (ty := ty) (pos := pos) (after := after) (gd := gd) hx hy hu ⟨by omega, by show _ < ((16 : Nat) : Int); omega⟩
  rwa [show ((a : Int)).toNat = a by omega, hx_get ⟨a, ha⟩] at h
end

attribute [local irreducible] hasBody Program.underlying Ylds astep alex alexE alexD awp PCall FCall RCall MCall QCall athen ablock ajump rpost fpost mpost

theorem u8_lt (c : UInt8) : c.toNat < 256 := c.toNat_lt
theorem rq_next {s l r : List UInt8} {i : Nat} {σ : Sl} {η : List Ob} (h : i < s.length) (hq : qp s i = l) (hr : quoteC (s.getD i 0) = r)
    (h0 : get σ 0 = .d (str s)) (h3 : get σ 3 = .d (str hxL)) (h4 : get σ 4 = .d (str (l ++ r))) (h5 : get σ 5 = .d (i64 ((i : Int) + 1))) :
    ∃ y : Nat, y ≤ s.length ∧ s.length - y < s.length - i ∧ Fits [(0, .d (str s)), (3, .d (str hxL)), (4, .d (str (qp s y))), (5, .d (i64 (y : Int)))] [] σ η :=
  ⟨i + 1, by omega, by omega, Fits_mk (Le_cons h0 (Le_cons h3 (Le_cons (by rw [← q_next h hq hr]; exact h4) (Le_cons h5 Le_nil)))) Pre_nil rfl rfl⟩

set_option maxHeartbeats 4000000 in
theorem rQuote_ok (s : List UInt8) (hs : s.length ≤ 1000000) : PCall Tryd.prog 27 [str s] (str (quoteF s)) := by
  refine pcall_of Tryd.func27 rfl Tryd.ntmps27 Tryd.results27 rfl ?_
  intro wb St0
  repeat' first
    | refine en_n ?_
    | refine awp_seq ?_
    | refine awp_region ?_
    | refine alex_nil ?_
    | refine w0 ?_
    | (refine Y_b2sc (l := [34]) (Co_dd rfl) uu8s uu8 ustr)
    | apply ay (hd := rfl)
    | (apply Y_assign_d; exact rfl)
    | (apply Y_lit1; exact (by first | with_reducible exact ety_toks | with_reducible exact ety_strs | with_reducible exact ety_u8s); exact (by first | with_reducible exact es_toks | with_reducible exact es_strs | with_reducible exact es_u8s); exact (by first | with_reducible exact zs_tok | with_reducible exact zs_str | with_reducible exact zs_i64 | with_reducible exact zs_u8); exact rfl; exact rfl; (first | exact CoL_d rfl CoL_nil | exact CoL_b rfl rfl rfl CoL_nil | exact CoL_n rfl CoL_nil); exact rfl)
    | refine awp_block ?_
  refine awp_loopF (α := Nat) (fun i => i ≤ s.length) (fun i => [(0, .d (str s)), (3, .d (str hxL)), (4, .d (str (qp s i))), (5, .d (i64 (i : Int)))]) (fun _ => []) (fun i => s.length - i) 0 (Nat.zero_le _)
      (Fits_mk (Le_cons rfl (Le_cons rfl (Le_cons rfl (Le_cons rfl Le_nil)))) Pre_nil rfl rfl) ?_
  rintro i hi
  have hl := qp_len s i
  generalize hq : qp s i = l at hl ⊢
  have hc : (s.getD (Int.toNat (i : Int)) 0).toNat < 256 := UInt8.toNat_lt _
  repeat' first
    | refine en_n ?_
    | refine awp_seq ?_
    | refine awp_region ?_
    | refine alex_nil ?_
    | refine w0 ?_
    | (apply Y_cat_l; exact rfl; exact rfl; simp only [List.length_append, List.length_take, List.length_drop, List.length_cons, List.length_nil]; omega)
    | (apply Y_len_l; exact rfl; with_reducible exact ustr)
    | (apply Y_idx_l; exact rfl; exact rfl; with_reducible exact ustr; (first | assumption | omega))
    | (apply Y_sub_l; exact rfl; exact rfl; exact rfl; with_reducible exact ustr; (first | assumption | omega))
    | (refine Y_u8int rfl su8 uint)
    | (refine Y_quo16 rfl rfl)
    | (refine Y_rem16 rfl rfl)
    | (refine Y_hexi (Nat.div_lt_of_lt_mul (u8_lt _)) rfl rfl ustr)
    | (refine Y_hexi (Nat.mod_lt _ (by decide)) rfl rfl ustr)
    | (refine Y_b2sc (l := [92]) (Co_dd rfl) uu8s uu8 ustr)
    | (refine Y_b2sc (l := [34]) (Co_dd rfl) uu8s uu8 ustr)
    | (refine Y_b2sc (l := [92, 110]) (Co_dd rfl) uu8s uu8 ustr)
    | (refine Y_b2sc (l := [92, 120, hexD ((s.getD (Int.toNat (i : Int)) 0).toNat / 16), hexD ((s.getD (Int.toNat (i : Int)) 0).toNat % 16)]) (Co_dd rfl) uu8s uu8 ustr)
    | apply ay (hd := rfl)
    | (apply Y_move_d; exact rfl)
    | (apply Y_assign_d; exact rfl)
    | (apply Y_lss; exact rfl; exact rfl)
    | (apply Y_leq; exact rfl; exact rfl)
    | (apply Y_geq; exact rfl; exact rfl)
    | (apply Y_eql; exact rfl; exact rfl)
    | (apply Y_add; exact rfl; exact rfl)
    | (apply Y_pick_t; exact rfl; exact rfl)
    | (apply Y_pick_f; exact rfl; exact rfl)
    | (apply Y_lit1; exact (by first | with_reducible exact ety_toks | with_reducible exact ety_strs | with_reducible exact ety_u8s); exact (by first | with_reducible exact es_toks | with_reducible exact es_strs | with_reducible exact es_u8s); exact (by first | with_reducible exact zs_tok | with_reducible exact zs_str | with_reducible exact zs_i64 | with_reducible exact zs_u8); exact rfl; exact rfl; (first | exact CoL_d rfl CoL_nil | exact CoL_b rfl rfl rfl CoL_nil | exact CoL_n rfl CoL_nil); exact rfl)
    | (apply Y_lit2; exact (by first | with_reducible exact ety_toks | with_reducible exact ety_strs | with_reducible exact ety_u8s); exact (by first | with_reducible exact es_toks | with_reducible exact es_strs | with_reducible exact es_u8s); exact (by first | with_reducible exact zs_tok | with_reducible exact zs_str | with_reducible exact zs_i64 | with_reducible exact zs_u8); exact rfl; exact rfl; (first | exact CoL_d rfl (CoL_d rfl CoL_nil) | exact CoL_b rfl rfl rfl (CoL_b rfl rfl rfl CoL_nil)); exact rfl)
    | (apply Y_lit4; exact (by first | with_reducible exact ety_toks | with_reducible exact ety_strs | with_reducible exact ety_u8s); exact (by first | with_reducible exact es_toks | with_reducible exact es_strs | with_reducible exact es_u8s); exact (by first | with_reducible exact zs_tok | with_reducible exact zs_str | with_reducible exact zs_i64 | with_reducible exact zs_u8); exact rfl; exact rfl; (exact CoL_d rfl (CoL_d rfl (CoL_d rfl (CoL_d rfl CoL_nil)))); exact rfl)
    | (apply w1; exact rfl; exact rfl)
    | (apply k1 (hd := rfl); exact rfl; exact rfl)
    | (apply k0 (hd := rfl); exact rfl; exact rfl)
    | (apply gD; exact rfl; exact rfl; (intro hb); rotate_left; (intro hb); rotate_right)
    | (apply awp_condD; exact rfl; (intro hb); rotate_left; (intro hb); rotate_right)
    | (apply awp_condT; exact rfl)
    | (apply awp_condF; exact rfl)
    | refine awp_block ?_
    | refine awp_skip ?_
    | refine awp_ret ?_
    | refine awp_exit ?_
    | refine awp_draw (by kernel_rfl) (by kernel_rfl) ?_
    | refine en_e ?_
    | refine eb_n ?_
    | refine eb_e ?_
    | refine rpost_ret ?_
    | (apply res1; exact rfl)
  all_goals try omega
  · exact rq_next (r := [92] ++ (s.drop (Int.toNat (i : Int))).take (Int.toNat ((i : Int) + 1) - Int.toNat (i : Int))) (by omega) hq (by rw [take1 (by omega)]; exact qC_a hb) rfl rfl rfl rfl
  · exact rq_next (r := [92] ++ (s.drop (Int.toNat (i : Int))).take (Int.toNat ((i : Int) + 1) - Int.toNat (i : Int))) (by omega) hq (by rw [take1 (by omega)]; exact qC_b hb) rfl rfl rfl rfl
  · exact rq_next (by omega) hq (qC_n hb) rfl rfl rfl rfl
  · exact rq_next (r := (s.drop (Int.toNat (i : Int))).take (Int.toNat ((i : Int) + 1) - Int.toNat (i : Int))) (by omega) hq (by rw [take1 (by omega)]; exact qC_p (c := s.getD (Int.toNat (i : Int)) 0) (by omega) (by omega) (by omega) (by omega)) rfl rfl rfl rfl
  · exact rq_next (by omega) hq (qC_x (c := s.getD (Int.toNat (i : Int)) 0) (by omega) (by omega) (by omega) (by omega)) rfl rfl rfl rfl
  · exact rq_next (by omega) hq (qC_x (c := s.getD (Int.toNat (i : Int)) 0) (by omega) (by omega) (by omega) (by omega)) rfl rfl rfl rfl
  · rw [← hq, show i = s.length by omega, q_end]

def wordF (t : Tk) : List UInt8 := if rightF t then (if t.kind = 3 then shw (W t.num) else if t.kind = 4 then quoteF t.text else t.text) else []
theorem right_text {t : Tk} (h : rightF t = true) (hk : t.kind = 4) : t.text.length ≤ 200 := by
  unfold rightF at h
  rw [hk] at h
  by_cases h0 : t.pos < 0
  · simp [h0] at h
  · simp [h0] at h; exact h.2
theorem Word_ok (t : Tk) : PCall Tryd.prog 22 [t.av] (str (wordF t)) := by
  refine pcall_of Tryd.func22 rfl Tryd.ntmps22 Tryd.results22 rfl ?_
  intro wb St0
  repeat' first
    | refine en_n ?_
    | refine awp_seq ?_
    | refine awp_region ?_
    | refine alex_nil ?_
    | refine w0 ?_
    | (apply Y_call (hb := hb_Right) (hc := Right_ok t))
    | (apply Y_call (hb := hb_wShow) (hc := wShow_ok t.num))
    | (refine Y_call hb_Quote (Quote_ok t.text (Nat.le_trans (right_text (by simpa using ‹(!rightF t) = false›) ‹t.kind = 4›) (by decide))) (CoL_d rfl CoL_nil))
    | (apply aBox (hd := rfl) (hro := rfl); exact rfl; exact rfl)
    | apply ay (hd := rfl)
    | (apply Y_assign_d; exact rfl)
    | (apply Y_eql; exact rfl; exact rfl)
    | (apply Y_not; exact rfl)
    | (apply Y_field_p; exact rfl; exact (by first | with_reducible exact fo_0 | with_reducible exact fo_1 | with_reducible exact fo_2 | with_reducible exact fo_3))
    | (apply Y_load_p; exact rfl; exact (by first | with_reducible exact tc_str | with_reducible exact tc_int | with_reducible exact tc_kind | with_reducible exact tc_tok | with_reducible exact tc_u8s | with_reducible exact tc_toks | with_reducible exact tc_strs | with_reducible exact tc_bool | with_reducible exact tc_err | with_reducible exact tc_i64); exact rfl; exact rfl)
    | (apply Y_load_pa; exact rfl; exact (by first | with_reducible exact tc_str | with_reducible exact tc_int | with_reducible exact tc_kind | with_reducible exact tc_tok | with_reducible exact tc_u8s | with_reducible exact tc_toks | with_reducible exact tc_strs | with_reducible exact tc_bool | with_reducible exact tc_err | with_reducible exact tc_i64); exact rfl; exact rfl; exact rfl)
    | (apply awp_condD; exact rfl; (intro hb); rotate_left; (intro hb); rotate_right)
    | (apply awp_cond; exact rfl; (intro hb); rotate_left; (intro hb); rotate_right)
    | refine awp_block ?_
    | refine awp_skip ?_
    | refine awp_ret ?_
    | refine en_r ?_
    | refine eb_n ?_
    | refine eb_r ?_
    | refine rpost_ret ?_
    | (apply res1; exact rfl)
    | exact CoL_nil
    | refine CoL_d rfl ?_
  all_goals exact str_eq (by unfold wordF; simp_all)
theorem rWord_ok (t : Tk) (ht : t.text.length ≤ 1000000) : PCall Tryd.prog 23 [t.av] (str (wordF t)) := by
  refine pcall_of Tryd.func23 rfl Tryd.ntmps23 Tryd.results23 rfl ?_
  intro wb St0
  repeat' first
    | refine en_n ?_
    | refine awp_seq ?_
    | refine awp_region ?_
    | refine alex_nil ?_
    | refine w0 ?_
    | (apply Y_call (hb := hb_rRight3) (hc := rRight_ok t ht))
    | (apply Y_call (hb := hb_rShow) (hc := rShow_ok t.num))
    | (apply Y_call (hb := hb_rQuote) (hc := rQuote_ok t.text ht))
    | (apply aBox (hd := rfl) (hro := rfl); exact rfl; exact rfl)
    | apply ay (hd := rfl)
    | (apply Y_assign_d; exact rfl)
    | (apply Y_eql; exact rfl; exact rfl)
    | (apply Y_not; exact rfl)
    | (apply Y_field_p; exact rfl; exact (by first | with_reducible exact fo_0 | with_reducible exact fo_1 | with_reducible exact fo_2 | with_reducible exact fo_3))
    | (apply Y_load_p; exact rfl; exact (by first | with_reducible exact tc_str | with_reducible exact tc_int | with_reducible exact tc_kind | with_reducible exact tc_tok | with_reducible exact tc_u8s | with_reducible exact tc_toks | with_reducible exact tc_strs | with_reducible exact tc_bool | with_reducible exact tc_err | with_reducible exact tc_i64); exact rfl; exact rfl)
    | (apply Y_load_pa; exact rfl; exact (by first | with_reducible exact tc_str | with_reducible exact tc_int | with_reducible exact tc_kind | with_reducible exact tc_tok | with_reducible exact tc_u8s | with_reducible exact tc_toks | with_reducible exact tc_strs | with_reducible exact tc_bool | with_reducible exact tc_err | with_reducible exact tc_i64); exact rfl; exact rfl; exact rfl)
    | (apply awp_condD; exact rfl; (intro hb); rotate_left; (intro hb); rotate_right)
    | (apply awp_cond; exact rfl; (intro hb); rotate_left; (intro hb); rotate_right)
    | refine awp_skip ?_
    | refine awp_ret ?_
    | refine en_r ?_
    | refine rpost_ret ?_
    | (apply res1; exact rfl)
    | exact CoL_nil
    | refine CoL_d rfl ?_
  all_goals exact str_eq (by unfold wordF; simp_all)
end Go.Proofs.YtbgomheagkcmaaaDoor
/- The token statements: the text that is written within quotes. -/
namespace Go.Proofs.YtbgomheagkcmaaaDoor
open Go.Sx Go.RowKit Go.Lib

section
variable {C : Ctx} {ops : Array Oper} {rest : List Oper} {K : Sl → List Ob → Prop} {σ : Sl} {η : List Ob} {d : Nat} {ty : TypeId} {pos : String} {after : Array Edge} {gd : Option (Nat × Bool)} {t : TypeId} {x y : Operand}
/-- a byte more -/
theorem aAppB {id n e by' : Nat} {mu : Bool} {l : List UInt8} {v : Int} (c : UInt8) (hx : oval σ x = .buf id n) (ho : η[id]? = some (.buf mu e 1 (bys l))) (hy : oval σ y = .d (.slice [.val (.int .u8 v)])) (hv : v = (c.toNat : Int)) (hn : n = l.length)
    (he : elemTy C.P t = some e) (hs : elemSize C.P t = some 1) (hz : zeroLen C.P e = some 1) (hb : bytesOf C.P t = some by') (hby : by' = 1) (hd : Nat.blt d C.N = true) (hro : Nat.ble C.ro id = true) (hlen : l.length ≤ 1000000000)
    (h : alex C false ops rest K ((d, .buf id (l.length + 1)) :: killσ id σ) ((killη id η).set id (.buf mu e 1 (bys (l ++ [c]))))) :
    astep C false ops ⟨some d, .call ⟨.builtin .append, #[x, y], #[t, t]⟩, ty, pos, after, gd⟩ rest K σ η := by
  subst hv; subst hn; subst hby
  refine aApp (id := id) (n := l.length) (mu := mu) (m := 1) (xs := bys l) (ys := [.val (.int .u8 (c.toNat : Int))]) hx ho (Co_dd hy) (bys_len l).symm rfl he hs hz hb hd hro (fun d hd => by simp at hd; subst hd; rfl) (by omega) ?_
  rw [bys_snoc]; exact h
end
section
variable {P : Program} {η : List Ob} {σ : Sl} {dst : Option Nat} {ty : TypeId} {pos : String} {after : Array Edge} {gd : Option (Nat × Bool)} {t yt : TypeId} {x y z : Operand}
theorem hexV_lt : ∀ c, hexV c < 16 := u8_all (by decide +kernel)
theorem hexV_idx : ∀ c, Lib.indexByte hxL c = hexV c := u8_all (by decide +kernel)
theorem hex_or (a b : UInt8) (ha : ¬ hexV a < 0) (hb : ¬ hexV b < 0) :
    IntKind.i64.wrap ((BitVec.ofInt IntKind.i64.bits (IntKind.i64.wrap (hexV a * 2 ^ min (4 : Int).toNat IntKind.i64.bits)) ||| BitVec.ofInt IntKind.i64.bits (hexV b)).toNat : Int) = ((16 * (hexV a).toNat + (hexV b).toNat : Nat) : Int) := by
  have h1 := hexV_lt a
  have h2 := hexV_lt b
  have e1 : hexV a = ((hexV a).toNat : Int) := by omega
  have e2 : hexV b = ((hexV b).toNat : Int) := by omega
  generalize (hexV a).toNat = m at *
  generalize (hexV b).toNat = n at *
  rw [e1, e2, show min (4 : Int).toNat IntKind.i64.bits = 4 from rfl, show IntKind.i64.wrap ((m : Int) * 2 ^ 4) = ((16 * m : Nat) : Int) by rw [wrap64_in (by omega) (by omega)]; omega]
  exact or16 m n (by omega) (by omega)
def hexB (a b : UInt8) : UInt8 := UInt8.ofNat (16 * (hexV a).toNat + (hexV b).toNat)
theorem hexB_nat (a b : UInt8) : (hexB a b).toNat = 16 * (hexV a).toNat + (hexV b).toNat := by
  have h1 := hexV_lt a
  have h2 := hexV_lt b
  rw [hexB, UInt8.toNat_ofNat']; omega
theorem hexB_wrap (a b : UInt8) : IntKind.u8.wrap ((16 * (hexV a).toNat + (hexV b).toNat : Nat) : Int) = ((hexB a b).toNat : Int) := by
  have h1 := hexV_lt a
  have h2 := hexV_lt b
  rw [wrap_u8, hexB_nat]; omega
end

theorem dropc {s : List UInt8} {i : Nat} (h : i < s.length) : s.drop i = s.getD i 0 :: s.drop (i + 1) := by
  rw [List.drop_eq_getElem_cons h, List.getD_eq_getElem?_getD, List.getElem?_eq_getElem h]; rfl
theorem q_nil (b : List UInt8) : quotedG b [] = none := by rw [quotedG.eq_def]
theorem q_cons (b : List UInt8) (c : UInt8) (s : List UInt8) : quotedG b (c :: s) = if c = 34 then some (b, s) else if c.toNat < 32 ∨ c.toNat > 126 then none else if c ≠ 92 then quotedG (b ++ [c]) s else match s with
      | [] => none
      | d :: s => if d = 34 ∨ d = 92 then quotedG (b ++ [d]) s else if d = 110 then quotedG (b ++ [10]) s
        else if d = 120 then match s with
          | x :: y :: s => if hexV x < 0 ∨ hexV y < 0 then none else quotedG (b ++ [hexB x y]) s
          | _ => none
        else none := by rw [quotedG.eq_def]; rfl
theorem q_end1 {b s : List UInt8} {c : UInt8} (h : (c.toNat : Int) = 34) : quotedG b (c :: s) = some (b, s) := by rw [q_cons, if_pos (c_eq 34 h)]
theorem q_bad {b s : List UInt8} {c : UInt8} (h : (c.toNat : Int) < 32 ∨ (c.toNat : Int) > 126) : quotedG b (c :: s) = none := by
  have h1 : c ≠ 34 := by rintro rfl; rcases h with h | h <;> exact absurd h (by decide)
  rw [q_cons, if_neg h1, if_pos (by omega)]
theorem q_byte {b s : List UInt8} {c : UInt8} (h1 : ¬ (c.toNat : Int) = 34) (h2 : ¬ ((c.toNat : Int) < 32 ∨ (c.toNat : Int) > 126)) (h3 : (c.toNat : Int) ≠ 92) : quotedG b (c :: s) = quotedG (b ++ [c]) s := by
  rw [q_cons, if_neg (by rintro rfl; exact h1 rfl), if_neg (by omega), if_pos (by rintro rfl; exact h3 rfl)]
theorem q_esc0 {b : List UInt8} {c : UInt8} (h3 : (c.toNat : Int) = 92) : quotedG b [c] = none := by
  rw [c_eq 92 h3, q_cons, if_neg (by decide), if_neg (by decide), if_neg (by decide)]
theorem q_esc {b s : List UInt8} {c d : UInt8} (h3 : (c.toNat : Int) = 92) : quotedG b (c :: d :: s) = if d = 34 ∨ d = 92 then quotedG (b ++ [d]) s else if d = 110 then quotedG (b ++ [10]) s
        else if d = 120 then match s with
          | x :: y :: s => if hexV x < 0 ∨ hexV y < 0 then none else quotedG (b ++ [hexB x y]) s
          | _ => none
        else none := by
  rw [c_eq 92 h3, q_cons, if_neg (by decide), if_neg (by decide), if_neg (by decide)]
theorem q_escd {b s : List UInt8} {c d : UInt8} (h3 : (c.toNat : Int) = 92) (h : (d.toNat : Int) = 34 ∨ (d.toNat : Int) = 92) : quotedG b (c :: d :: s) = quotedG (b ++ [d]) s := by
  rw [q_esc h3, if_pos (h.imp (c_eq 34) (c_eq 92))]
theorem q_escn {b s : List UInt8} {c d : UInt8} (h3 : (c.toNat : Int) = 92) (h : (d.toNat : Int) = 110) : quotedG b (c :: d :: s) = quotedG (b ++ [10]) s := by
  rw [q_esc h3, c_eq 110 h, if_neg (by decide), if_pos rfl]
theorem q_escx {b s : List UInt8} {c d x y : UInt8} (h3 : (c.toNat : Int) = 92) (h : (d.toNat : Int) = 120) : quotedG b (c :: d :: x :: y :: s) = if hexV x < 0 ∨ hexV y < 0 then none else quotedG (b ++ [hexB x y]) s := by
  rw [q_esc h3, c_eq 120 h, if_neg (by decide), if_neg (by decide), if_pos rfl]
theorem q_escs {b s : List UInt8} {c d : UInt8} (h3 : (c.toNat : Int) = 92) (h : (d.toNat : Int) = 120) (hl : s.length < 2) : quotedG b (c :: d :: s) = none := by
  rw [q_esc h3, c_eq 120 h, if_neg (by decide), if_neg (by decide), if_pos rfl]
  match s with
  | [] => rfl
  | [_] => rfl
  | _ :: _ :: _ => simp at hl; omega
theorem q_esco {b s : List UInt8} {c d : UInt8} (h3 : (c.toNat : Int) = 92) (h1 : ¬ (d.toNat : Int) = 34) (h2 : ¬ (d.toNat : Int) = 92) (h4 : ¬ (d.toNat : Int) = 110) (h5 : ¬ (d.toNat : Int) = 120) : quotedG b (c :: d :: s) = none := by
  rw [q_esc h3, if_neg, if_neg (by rintro rfl; exact h4 rfl), if_neg (by rintro rfl; exact h5 rfl)]
  rintro (rfl | rfl)
  · exact h1 rfl
  · exact h2 rfl
theorem IdxHex_ok (c : UInt8) : PCall Tryd.prog 62 [str hxL, u8 c] (i64 (hexV c)) := hexV_idx c ▸ IndexByte_ok hxL c

/-- what quoted answers -/
def quotedS (s : List UInt8) : List UInt8 := match quotedG [] (s.drop 1) with | some (b, _) => b | none => []
def quotedN (s : List UInt8) : Int := match quotedG [] (s.drop 1) with | some (_, r) => (s.length : Int) - r.length | none => 0
def textN (s : List UInt8) (a : Nat) : Int := match quotedG [] (s.drop (a + 1)) with | some (_, r) => (s.length : Int) - r.length | none => -1
def textS (s : List UInt8) (a : Nat) : List UInt8 := match quotedG [] (s.drop (a + 1)) with | some (b, _) => b | none => []
attribute [local irreducible] hasBody Program.underlying Ylds astep alex alexE alexD awp PCall FCall RCall MCall QCall athen ablock ajump rpost fpost mpost

theorem qd_step {s b b' : List UInt8} {i j n : Nat} {v : Int} {σ : Sl} {η : List Ob} (hi : i < j) (hj : j ≤ s.length) (hb : b.length ≤ i) (hb' : ∃ c, b' = b ++ [c]) (hq : quotedG b' (s.drop j) = quotedG [] (s.drop 1))
    (h0 : get σ 0 = .d (str s)) (h4 : get σ 4 = .buf 0 n) (hn : n = b.length + 1) (h5 : get σ 5 = .d (i64 v)) (hv : v = (j : Int)) (hη : η = [.buf false 5 1 (bys b')]) :
    ∃ y : Nat × List UInt8, (y.1 ≤ s.length ∧ y.2.length ≤ y.1 ∧ quotedG y.2 (s.drop y.1) = quotedG [] (s.drop 1)) ∧ s.length - y.1 < s.length - i ∧ Fits [(0, .d (str s)), (4, .buf 0 y.2.length), (5, .d (i64 (y.1 : Int)))] [.buf false 5 1 (bys y.2)] σ η := by
  subst hη; subst hv; subst hn
  obtain ⟨c, rfl⟩ := hb'
  have hl : (b ++ [c]).length = b.length + 1 := by simp
  exact ⟨(j, b ++ [c]), ⟨hj, by show (b ++ [c]).length ≤ j; omega, hq⟩, by show s.length - j < _; omega, Fits_mk (Le_cons h0 (Le_cons (by show get σ 4 = .buf 0 (b ++ [c]).length; rw [hl]; exact h4) (Le_cons h5 Le_nil))) (Pre_cons rfl rfl Pre_nil) rfl rfl⟩
theorem qd_none {s : List UInt8} (h : quotedG [] (s.drop 1) = none) : [] = quotedS s ∧ 0 = quotedN s := by rw [quotedS, quotedN, h]; exact ⟨rfl, rfl⟩
theorem qd_some {s b r : List UInt8} (h : quotedG [] (s.drop 1) = some (b, r)) : b = quotedS s ∧ (s.length : Int) - r.length = quotedN s := by rw [quotedS, quotedN, h]; exact ⟨rfl, rfl⟩

theorem sint : (Tryd.prog.underlying 3).isSome = true := by kernel_rfl
set_option maxHeartbeats 4000000 in
theorem quoted_ok (s : List UInt8) (hs : s.length ≤ 1000000) (h1 : 1 ≤ s.length) : PCall Tryd.prog 57 [str s] (.tup [str (quotedS s), i64 (quotedN s)]) := by
  refine pcall_of Tryd.func57 rfl Tryd.ntmps57 Tryd.results57 rfl ?_
  intro wb St0
  repeat' first
    | (refine awp_newbuf 4 false 5 1 rfl rfl ?_)
    | refine en_n ?_
    | refine awp_seq ?_
    | refine awp_region ?_
    | refine alex_nil ?_
    | refine w0 ?_
    | apply ay (hd := rfl)
    | (apply Y_assign_d; exact rfl)
    | (apply Y_assign_nil; exact rfl)
    | refine awp_block ?_
  refine awp_loopF (α := Nat × List UInt8) (fun x => x.1 ≤ s.length ∧ x.2.length ≤ x.1 ∧ quotedG x.2 (s.drop x.1) = quotedG [] (s.drop 1)) (fun x => [(0, .d (str s)), (4, .buf 0 x.2.length), (5, .d (i64 (x.1 : Int)))]) (fun x => [.buf false 5 1 (bys x.2)]) (fun x => s.length - x.1) (1, []) ⟨h1, Nat.zero_le _, rfl⟩
      (Fits_mk (Le_cons rfl (Le_cons rfl (Le_cons rfl Le_nil))) (Pre_cons rfl rfl Pre_nil) rfl rfl) ?_
  rintro ⟨i, b⟩ ⟨hi, hbi, hq⟩
  dsimp only at hi hbi hq ⊢
  repeat' first
    | refine en_n ?_
    | refine awp_seq ?_
    | refine awp_region ?_
    | refine alex_nil ?_
    | refine w0 ?_
    | (apply Y_len_l; exact rfl; with_reducible exact ustr)
    | (apply Y_idx_l; exact rfl; exact rfl; with_reducible exact ustr; (first | assumption | omega))
    | (apply Y_eqlT; exact rfl; exact rfl; first | assumption | omega)
    | (apply aAppB _ (hd := rfl) (hro := rfl); exact rfl; exact rfl; exact rfl; (first | exact rfl | exact hexB_wrap _ _); exact rfl; with_reducible exact ety_u8s; with_reducible exact es_u8s; with_reducible exact zl_u8; with_reducible exact by_u8s; exact rfl; omega)
    | (apply aAppB 10 (hd := rfl) (hro := rfl); exact rfl; exact rfl; exact rfl; (first | exact rfl | exact hexB_wrap _ _); exact rfl; with_reducible exact ety_u8s; with_reducible exact es_u8s; with_reducible exact zl_u8; with_reducible exact by_u8s; exact rfl; omega)
    | (refine Y_b2sc (l := b) (Co_bb rfl rfl (bys_len _).symm) uu8s uu8 ustr)
    | (refine Y_call hb_IndexByte (IdxHex_ok _) (CoL_d rfl (CoL_d rfl CoL_nil)))
    | (apply Y_shl; exact rfl; exact rfl; exact (by decide))
    | (refine Y_or _ rfl rfl (hex_or _ _ (by omega) (by omega)))
    | (apply Y_conv; exact rfl; with_reducible exact sint; with_reducible exact uu8)
    | apply ay (hd := rfl)
    | (apply Y_move_d; exact rfl)
    | (apply Y_assign_d; exact rfl)
    | (apply Y_lss; exact rfl; exact rfl)
    | (apply Y_gtr; exact rfl; exact rfl)
    | (apply Y_geq; exact rfl; exact rfl)
    | (apply Y_eql; exact rfl; exact rfl)
    | (apply Y_neq; exact rfl; exact rfl)
    | (apply Y_add; exact rfl; exact rfl)
    | (apply Y_pick_t; exact rfl; exact rfl)
    | (apply Y_pick_f; exact rfl; exact rfl)
    | (apply Y_move_buf; exact rfl)
    | (apply Y_assign_buf; exact rfl)
    | (apply Y_lit1; exact (by first | with_reducible exact ety_toks | with_reducible exact ety_strs | with_reducible exact ety_u8s); exact (by first | with_reducible exact es_toks | with_reducible exact es_strs | with_reducible exact es_u8s); exact (by first | with_reducible exact zs_tok | with_reducible exact zs_str | with_reducible exact zs_i64 | with_reducible exact zs_u8); exact rfl; exact rfl; (first | exact CoL_d rfl CoL_nil | exact CoL_b rfl rfl rfl CoL_nil | exact CoL_n rfl CoL_nil); exact rfl)
    | (apply w1; exact rfl; exact rfl)
    | (apply k0 (hd := rfl); exact rfl; exact rfl)
    | (apply gD; exact rfl; exact rfl; (intro hb); rotate_left; (intro hb); rotate_right)
    | (apply awp_condD; exact rfl; (intro hb); rotate_left; (intro hb); rotate_right)
    | (apply awp_condT; exact rfl)
    | refine awp_block ?_
    | refine awp_skip ?_
    | refine awp_ret ?_
    | refine awp_exit ?_
    | refine awp_draw (by kernel_rfl) (by kernel_rfl) ?_
    | refine en_r ?_
    | refine en_e ?_
    | refine eb_n ?_
    | refine eb_r ?_
    | refine eb_e ?_
    | refine eb_o rfl ?_
    | refine rpost_ret ?_
    | (apply res2; exact rfl; exact rfl)
  all_goals try omega
  all_goals skip
  · exact str_eq (qd_some (hq.symm.trans (by rw [dropc (by omega)]; exact q_end1 hb))).1
  · have h := (qd_some (hq.symm.trans (by rw [dropc (show i < s.length by omega)]; exact q_end1 hb))).2
    rw [List.length_drop] at h
    exact i64_is (by omega)
  · exact str_eq (qd_none (hq.symm.trans (by rw [dropc (show i < s.length by omega)]; exact q_bad (.inl hb)))).1
  · exact i64_is (qd_none (hq.symm.trans (by rw [dropc (show i < s.length by omega)]; exact q_bad (.inl hb)))).2
  · exact str_eq (qd_none (hq.symm.trans (by rw [dropc (show i < s.length by omega)]; exact q_bad (.inr hb)))).1
  · exact i64_is (qd_none (hq.symm.trans (by rw [dropc (show i < s.length by omega)]; exact q_bad (.inr hb)))).2
  · exact qd_step (j := i + 1) (by omega) (by omega) hbi ⟨_, rfl⟩ (by rw [← hq, dropc (show i < s.length by omega)]; exact (q_byte (by assumption) (by rintro (h | h) <;> contradiction) hb).symm) rfl rfl rfl rfl (by omega) rfl
  rotate_right 2
  · exact str_eq (qd_none (hq.symm.trans (by rw [List.drop_eq_nil_of_le (by omega)]; exact q_nil _))).1
  · exact i64_is (qd_none (hq.symm.trans (by rw [List.drop_eq_nil_of_le (by omega)]; exact q_nil _))).2
  all_goals have h92 : ((s.getD i 0).toNat : Int) = 92 := Decidable.not_not.1 ‹_›
  · exact str_eq (qd_none (hq.symm.trans (by rw [dropc (show i < s.length by omega), List.drop_eq_nil_of_le (by omega)]; exact q_esc0 h92))).1
  · exact i64_is (qd_none (hq.symm.trans (by rw [dropc (show i < s.length by omega), List.drop_eq_nil_of_le (by omega)]; exact q_esc0 h92))).2
  · exact qd_step (j := i + 2) (by omega) (by omega) hbi ⟨_, rfl⟩ (by rw [← hq, dropc (show i < s.length by omega), dropc (show i + 1 < s.length by omega)]; exact (q_escd h92 (.inl hb)).symm) rfl rfl rfl rfl (by omega) rfl
  · exact qd_step (j := i + 2) (by omega) (by omega) hbi ⟨_, rfl⟩ (by rw [← hq, dropc (show i < s.length by omega), dropc (show i + 1 < s.length by omega)]; exact (q_escd h92 (.inr hb)).symm) rfl rfl rfl rfl (by omega) rfl
  · exact qd_step (j := i + 2) (by omega) (by omega) hbi ⟨_, rfl⟩ (by rw [← hq, dropc (show i < s.length by omega), dropc (show i + 1 < s.length by omega)]; exact (q_escn h92 hb).symm) rfl rfl rfl rfl (by omega) rfl
  · exact str_eq (qd_none (hq.symm.trans (by rw [dropc (show i < s.length by omega), dropc (show i + 1 < s.length by omega)]; exact q_escs h92 ‹_› (by rw [List.length_drop]; omega)))).1
  · exact i64_is (qd_none (hq.symm.trans (by rw [dropc (show i < s.length by omega), dropc (show i + 1 < s.length by omega)]; exact q_escs h92 ‹_› (by rw [List.length_drop]; omega)))).2
  · exact str_eq (qd_none (hq.symm.trans (by rw [dropc (show i < s.length by omega), dropc (show i + 1 < s.length by omega), dropc (show i + 1 + 1 < s.length by omega), dropc (show i + 1 + 1 + 1 < s.length by omega)]; exact (q_escx h92 ‹_›).trans (if_pos (.inl hb))))).1
  · exact i64_is (qd_none (hq.symm.trans (by rw [dropc (show i < s.length by omega), dropc (show i + 1 < s.length by omega), dropc (show i + 1 + 1 < s.length by omega), dropc (show i + 1 + 1 + 1 < s.length by omega)]; exact (q_escx h92 ‹_›).trans (if_pos (.inl hb))))).2
  · exact str_eq (qd_none (hq.symm.trans (by rw [dropc (show i < s.length by omega), dropc (show i + 1 < s.length by omega), dropc (show i + 1 + 1 < s.length by omega), dropc (show i + 1 + 1 + 1 < s.length by omega)]; exact (q_escx h92 ‹_›).trans (if_pos (.inr hb))))).1
  · exact i64_is (qd_none (hq.symm.trans (by rw [dropc (show i < s.length by omega), dropc (show i + 1 < s.length by omega), dropc (show i + 1 + 1 < s.length by omega), dropc (show i + 1 + 1 + 1 < s.length by omega)]; exact (q_escx h92 ‹_›).trans (if_pos (.inr hb))))).2
  · exact qd_step (j := i + 4) (by omega) (by omega) hbi ⟨_, rfl⟩ (by rw [← hq, dropc (show i < s.length by omega), dropc (show i + 1 < s.length by omega), dropc (show i + 1 + 1 < s.length by omega), dropc (show i + 1 + 1 + 1 < s.length by omega)]; exact ((q_escx h92 ‹_›).trans (if_neg (by rintro (h | h) <;> contradiction))).symm) rfl rfl rfl rfl (by omega) rfl
  · exact str_eq (qd_none (hq.symm.trans (by rw [dropc (show i < s.length by omega), dropc (show i + 1 < s.length by omega)]; exact q_esco h92 ‹_› ‹_› ‹_› ‹_›))).1
  · exact i64_is (qd_none (hq.symm.trans (by rw [dropc (show i < s.length by omega), dropc (show i + 1 < s.length by omega)]; exact q_esco h92 ‹_› ‹_› ‹_› ‹_›))).2
end Go.Proofs.YtbgomheagkcmaaaDoor
/- The token statements: the text that is written within quotes (the document's). -/
namespace Go.Proofs.YtbgomheagkcmaaaDoor
open Go.Sx Go.RowKit Go.Lib
attribute [local irreducible] hasBody Program.underlying Ylds astep alex alexE alexD awp PCall FCall RCall MCall QCall athen ablock ajump rpost fpost mpost

theorem hex_hit {c : UInt8} {i : Nat} (h : i < 16) (h1 : ((hxL.getD i 0).toNat : Int) = (c.toNat : Int)) : (i : Int) = hexV c := by
  have e : hxL.getD i 0 = c := UInt8.toNat_inj.1 (by omega)
  subst e
  have : ∀ k : Fin 16, (k.1 : Int) = hexV (hxL.getD k.1 0) := by decide
  exact this ⟨i, h⟩
theorem hex_miss {c : UInt8} (h : ∀ j, j < 16 → hxL.getD j 0 ≠ c) : hexV c = -1 := by
  have : ∀ c : UInt8, (hexV c = -1 ∨ ∃ k : Fin 16, hxL.getD k.1 0 = c) := u8_all (by decide +kernel)
  rcases this c with h1 | ⟨k, h1⟩
  · exact h1
  · exact absurd h1 (h k.1 k.2)
theorem hex_ok (c : UInt8) : PCall Tryd.prog 72 [u8 c] (i64 (hexV c)) := by
  refine pcall_of Tryd.func72 rfl Tryd.ntmps72 Tryd.results72 rfl ?_
  intro wb St0
  repeat' first
    | refine en_n ?_
    | refine awp_seq ?_
    | refine awp_region ?_
    | refine alex_nil ?_
    | refine w0 ?_
    | apply ay (hd := rfl)
    | (apply Y_assign_d; exact rfl)
    | refine awp_block ?_
  refine awp_loopF (α := Nat) (fun i => i ≤ 16 ∧ ∀ j, j < i → hxL.getD j 0 ≠ c) (fun i => [(0, .d (u8 c)), (3, .d (str hxL)), (4, .d (i64 (i : Int)))]) (fun _ => []) (fun i => 16 - i) 0 ⟨Nat.zero_le _, by omega⟩
      (Fits_mk (Le_cons rfl (Le_cons rfl (Le_cons rfl Le_nil))) Pre_nil rfl rfl) ?_
  rintro i ⟨hi1, hi2⟩
  have hL : hxL.length = 16 := rfl
  repeat' first
    | refine en_n ?_
    | refine awp_seq ?_
    | refine awp_region ?_
    | refine alex_nil ?_
    | refine w0 ?_
    | (apply Y_idx_l; exact rfl; exact rfl; with_reducible exact ustr; (first | assumption | omega))
    | apply ay (hd := rfl)
    | (apply Y_move_d; exact rfl)
    | (apply Y_assign_d; exact rfl)
    | (apply Y_lss; exact rfl; exact rfl)
    | (apply Y_eql; exact rfl; exact rfl)
    | (apply Y_add; exact rfl; exact rfl)
    | (apply awp_condD; exact rfl; (intro hb); rotate_left; (intro hb); rotate_right)
    | refine awp_block ?_
    | refine awp_skip ?_
    | refine awp_ret ?_
    | refine awp_exit ?_
    | refine en_r ?_
    | refine en_e ?_
    | refine eb_n ?_
    | refine eb_r ?_
    | refine eb_e ?_
    | refine rpost_ret ?_
    | (apply res1; exact rfl)
  · rename_i h1
    exact i64_is (hex_hit (by omega) hb)
  · omega
  · rename_i h1
    refine ⟨i + 1, ⟨by omega, fun j hj => ?_⟩, by omega, Fits_mk (Le_cons rfl (Le_cons rfl (Le_cons rfl Le_nil))) Pre_nil rfl rfl⟩
    rcases Nat.lt_or_ge j i with h | h
    · exact hi2 j h
    · rw [show j = i by omega]; rintro rfl; exact hb rfl
  · exact i64_is (hex_miss fun j hj => hi2 j (by omega)).symm

theorem hex_sum (a b : UInt8) (ha : hexV a ≥ 0) (hb : hexV b ≥ 0) : IntKind.u8.wrap (16 * hexV a + hexV b) = ((hexB a b).toNat : Int) := by
  rw [← hexB_wrap]; congr 1; omega
theorem tx_none {s : List UInt8} {a : Nat} (h : quotedG [] (s.drop (a + 1)) = none) : [] = textS s a ∧ -1 = textN s a := by rw [textS, textN, h]; exact ⟨rfl, rfl⟩
theorem tx_some {s b r : List UInt8} {a : Nat} (h : quotedG [] (s.drop (a + 1)) = some (b, r)) : b = textS s a ∧ (s.length : Int) - r.length = textN s a := by rw [textS, textN, h]; exact ⟨rfl, rfl⟩
theorem tx_step {s b b' : List UInt8} {a i j n : Nat} {v : Int} {σ : Sl} {η : List Ob} (hi : i < j) (hj : j ≤ s.length) (hb : b.length ≤ i) (hb' : ∃ c, b' = b ++ [c]) (hq : quotedG b' (s.drop j) = quotedG [] (s.drop (a + 1)))
    (h0 : get σ 0 = .d (str s)) (h4 : get σ 6 = .buf 0 n) (hn : n = b.length + 1) (h5 : get σ 7 = .d (i64 v)) (hv : v = (j : Int)) (hη : η = [.buf false 5 1 (bys b')]) :
    ∃ y : Nat × List UInt8, (y.1 ≤ s.length ∧ y.2.length ≤ y.1 ∧ quotedG y.2 (s.drop y.1) = quotedG [] (s.drop (a + 1))) ∧ s.length - y.1 < s.length - i ∧ Fits [(0, .d (str s)), (6, .buf 0 y.2.length), (7, .d (i64 (y.1 : Int)))] [.buf false 5 1 (bys y.2)] σ η := by
  subst hη; subst hv; subst hn
  obtain ⟨c, rfl⟩ := hb'
  have hl : (b ++ [c]).length = b.length + 1 := by simp
  exact ⟨(j, b ++ [c]), ⟨hj, by show (b ++ [c]).length ≤ j; omega, hq⟩, by show s.length - j < _; omega, Fits_mk (Le_cons h0 (Le_cons (by show get σ 6 = .buf 0 (b ++ [c]).length; rw [hl]; exact h4) (Le_cons h5 Le_nil))) (Pre_cons rfl rfl Pre_nil) rfl rfl⟩

set_option maxHeartbeats 4000000 in
theorem text_ok (s : List UInt8) (a : Nat) (hs : s.length ≤ 1000000) (ha : a < s.length) : PCall Tryd.prog 60 [str s, i64 (a : Int)] (.tup [str (textS s a), i64 (textN s a)]) := by
  refine pcall_of Tryd.func60 rfl Tryd.ntmps60 Tryd.results60 rfl ?_
  intro wb St0
  repeat' first
    | refine en_n ?_
    | refine awp_seq ?_
    | refine awp_region ?_
    | refine alex_nil ?_
    | refine w0 ?_
    | (apply aLit0 (hd := rfl) (hro := rfl); (with_reducible exact ety_u8s); (with_reducible exact es_u8s); (with_reducible exact zs_u8); exact rfl)
    | apply ay (hd := rfl)
    | (apply Y_move_d; exact rfl)
    | (apply Y_assign_d; exact rfl)
    | (apply Y_add; exact rfl; exact rfl)
    | (apply Y_assign_buf; exact rfl)
    | refine awp_block ?_
  · omega
  refine awp_loopF (α := Nat × List UInt8) (fun x => x.1 ≤ s.length ∧ x.2.length ≤ x.1 ∧ quotedG x.2 (s.drop x.1) = quotedG [] (s.drop (a + 1))) (fun x => [(0, .d (str s)), (6, .buf 0 x.2.length), (7, .d (i64 (x.1 : Int)))]) (fun x => [.buf false 5 1 (bys x.2)]) (fun x => s.length - x.1) ((a + 1 : Nat), ([] : List UInt8)) ⟨ha, Nat.zero_le _, rfl⟩
      (Fits_mk (Le_cons rfl (Le_cons rfl (Le_cons rfl Le_nil))) (Pre_buf rfl rfl rfl Pre_nil) rfl rfl) ?_
  rintro ⟨i, b⟩ ⟨hi, hbi, hq⟩
  dsimp only at hi hbi hq ⊢
  have h1x := hexV_lt (s.getD (Int.toNat ((i : Int) + 2)) 0)
  have h2x := hexV_lt (s.getD (Int.toNat ((i : Int) + 3)) 0)
  repeat' first
    | refine en_n ?_
    | refine awp_seq ?_
    | refine awp_region ?_
    | refine alex_nil ?_
    | refine w0 ?_
    | (apply k1u (hd := rfl); exact rfl; exact rfl)
    | (apply k0u (hd := rfl); exact rfl; exact rfl)
    | (apply Y_len_l; exact rfl; with_reducible exact ustr)
    | (apply Y_idx_l; exact rfl; exact rfl; with_reducible exact ustr; (first | assumption | omega))
    | (apply aAppB _ (hd := rfl) (hro := rfl); exact rfl; exact rfl; exact rfl; (first | exact rfl | exact hex_sum _ _ (by omega) (by omega)); exact rfl; with_reducible exact ety_u8s; with_reducible exact es_u8s; with_reducible exact zl_u8; with_reducible exact by_u8s; exact rfl; omega)
    | (apply aAppB 10 (hd := rfl) (hro := rfl); exact rfl; exact rfl; exact rfl; exact rfl; exact rfl; with_reducible exact ety_u8s; with_reducible exact es_u8s; with_reducible exact zl_u8; with_reducible exact by_u8s; exact rfl; omega)
    | (refine a_bar (by kernel_rfl) ?_; apply aAppB _ (hd := rfl) (hro := rfl); exact rfl; exact rfl; exact rfl; exact hex_sum _ _ (by omega) (by omega); exact rfl; with_reducible exact ety_u8s; with_reducible exact es_u8s; with_reducible exact zl_u8; with_reducible exact by_u8s; exact rfl; omega)
    | (refine Y_b2sc (l := b) (Co_bb rfl rfl (bys_len _).symm) uu8s uu8 ustr)
    | (refine Y_call hb_hex (hex_ok _) (CoL_d rfl CoL_nil))
    | (apply Y_conv; exact rfl; with_reducible exact sint; with_reducible exact uu8)
    | apply ay (hd := rfl)
    | (apply Y_move_d; exact rfl)
    | (apply Y_assign_d; exact rfl)
    | (apply Y_lss; exact rfl; exact rfl)
    | (apply Y_gtr; exact rfl; exact rfl)
    | (apply Y_geq; exact rfl; exact rfl)
    | (apply Y_eql; exact rfl; exact rfl)
    | (apply Y_neq; exact rfl; exact rfl)
    | (apply Y_add; exact rfl; exact rfl)
    | (apply Y_mul; exact rfl; exact rfl)
    | (apply Y_pick_t; exact rfl; exact rfl)
    | (apply Y_pick_f; exact rfl; exact rfl)
    | (apply Y_move_buf; exact rfl)
    | (apply Y_assign_buf; exact rfl)
    | (apply Y_lit1; exact (by first | with_reducible exact ety_toks | with_reducible exact ety_strs | with_reducible exact ety_u8s); exact (by first | with_reducible exact es_toks | with_reducible exact es_strs | with_reducible exact es_u8s); exact (by first | with_reducible exact zs_tok | with_reducible exact zs_str | with_reducible exact zs_i64 | with_reducible exact zs_u8); exact rfl; exact rfl; (first | exact CoL_d rfl CoL_nil | exact CoL_b rfl rfl rfl CoL_nil | exact CoL_n rfl CoL_nil); exact rfl)
    | (apply w1; exact rfl; exact rfl)
    | (apply gD; exact rfl; exact rfl; (intro hb); rotate_left; (intro hb); rotate_right)
    | (apply awp_condD; exact rfl; (intro hb); rotate_left; (intro hb); rotate_right)
    | (apply awp_condT; exact rfl)
    | (apply awp_condF; exact rfl)
    | refine awp_block ?_
    | refine awp_skip ?_
    | refine awp_ret ?_
    | refine awp_exit ?_
    | refine awp_draw (by kernel_rfl) (by kernel_rfl) ?_
    | refine en_r ?_
    | refine en_e ?_
    | refine eb_n ?_
    | refine eb_r ?_
    | refine eb_e ?_
    | refine rpost_ret ?_
    | (apply res2; exact rfl; exact rfl)
  all_goals try omega
  · exact str_eq (tx_some (hq.symm.trans (by rw [dropc (by omega)]; exact q_end1 hb))).1
  · have h := (tx_some (hq.symm.trans (by rw [dropc (show i < s.length by omega)]; exact q_end1 hb))).2
    rw [List.length_drop] at h
    exact i64_is (by omega)
  · exact str_eq (tx_none (hq.symm.trans (by rw [dropc (show i < s.length by omega)]; exact q_bad (.inl hb)))).1
  · exact i64_is (tx_none (hq.symm.trans (by rw [dropc (show i < s.length by omega)]; exact q_bad (.inl hb)))).2
  · exact str_eq (tx_none (hq.symm.trans (by rw [dropc (show i < s.length by omega)]; exact q_bad (.inr hb)))).1
  · exact i64_is (tx_none (hq.symm.trans (by rw [dropc (show i < s.length by omega)]; exact q_bad (.inr hb)))).2
  · exact tx_step (j := i + 1) (by omega) (by omega) hbi ⟨_, rfl⟩ (by rw [← hq, dropc (show i < s.length by omega)]; exact (q_byte (by assumption) (by rintro (h | h) <;> contradiction) hb).symm) rfl rfl rfl rfl (by omega) rfl
  rotate_right 2
  · exact str_eq (tx_none (hq.symm.trans (by rw [List.drop_eq_nil_of_le (by omega)]; exact q_nil _))).1
  · exact i64_is (tx_none (hq.symm.trans (by rw [List.drop_eq_nil_of_le (by omega)]; exact q_nil _))).2
  all_goals have h92 : ((s.getD i 0).toNat : Int) = 92 := Decidable.not_not.1 ‹_›
  · exact str_eq (tx_none (hq.symm.trans (by rw [dropc (show i < s.length by omega), List.drop_eq_nil_of_le (by omega)]; exact q_esc0 h92))).1
  · exact i64_is (tx_none (hq.symm.trans (by rw [dropc (show i < s.length by omega), List.drop_eq_nil_of_le (by omega)]; exact q_esc0 h92))).2
  · exact tx_step (j := i + 2) (by omega) (by omega) hbi ⟨_, rfl⟩ (by rw [← hq, dropc (show i < s.length by omega), dropc (show i + 1 < s.length by omega)]; exact (q_escd h92 (.inl hb)).symm) rfl rfl rfl rfl (by omega) rfl
  · exact tx_step (j := i + 2) (by omega) (by omega) hbi ⟨_, rfl⟩ (by rw [← hq, dropc (show i < s.length by omega), dropc (show i + 1 < s.length by omega)]; exact (q_escd h92 (.inr hb)).symm) rfl rfl rfl rfl (by omega) rfl
  · exact tx_step (j := i + 2) (by omega) (by omega) hbi ⟨_, rfl⟩ (by rw [← hq, dropc (show i < s.length by omega), dropc (show i + 1 < s.length by omega)]; exact (q_escn h92 hb).symm) rfl rfl rfl rfl (by omega) rfl
  · exact tx_step (j := i + 4) (by omega) (by omega) hbi ⟨_, rfl⟩ (by rw [← hq, dropc (show i < s.length by omega), dropc (show i + 1 < s.length by omega), dropc (show i + 1 + 1 < s.length by omega), dropc (show i + 1 + 1 + 1 < s.length by omega)]; exact ((q_escx h92 ‹_›).trans (if_neg (by rintro (h | h) <;> exact absurd h (Int.not_lt.2 (by assumption))))).symm) rfl rfl rfl rfl (by omega) rfl
  · exact str_eq (tx_none (hq.symm.trans (by rw [dropc (show i < s.length by omega), dropc (show i + 1 < s.length by omega), dropc (show i + 1 + 1 < s.length by omega), dropc (show i + 1 + 1 + 1 < s.length by omega)]; exact (q_escx h92 ‹_›).trans (if_pos (.inr (Int.not_le.1 hb)))))).1
  · exact i64_is (tx_none (hq.symm.trans (by rw [dropc (show i < s.length by omega), dropc (show i + 1 < s.length by omega), dropc (show i + 1 + 1 < s.length by omega), dropc (show i + 1 + 1 + 1 < s.length by omega)]; exact (q_escx h92 ‹_›).trans (if_pos (.inr (Int.not_le.1 hb)))))).2
  · exact str_eq (tx_none (hq.symm.trans (by rw [dropc (show i < s.length by omega), dropc (show i + 1 < s.length by omega), dropc (show i + 1 + 1 < s.length by omega), dropc (show i + 1 + 1 + 1 < s.length by omega)]; exact (q_escx h92 ‹_›).trans (if_pos (.inl (Int.not_le.1 hb)))))).1
  · exact i64_is (tx_none (hq.symm.trans (by rw [dropc (show i < s.length by omega), dropc (show i + 1 < s.length by omega), dropc (show i + 1 + 1 < s.length by omega), dropc (show i + 1 + 1 + 1 < s.length by omega)]; exact (q_escx h92 ‹_›).trans (if_pos (.inl (Int.not_le.1 hb)))))).2
  · exact str_eq (tx_none (hq.symm.trans (by rw [dropc (show i < s.length by omega), dropc (show i + 1 < s.length by omega)]; exact q_escs h92 ‹_› (by rw [List.length_drop]; omega)))).1
  · exact i64_is (tx_none (hq.symm.trans (by rw [dropc (show i < s.length by omega), dropc (show i + 1 < s.length by omega)]; exact q_escs h92 ‹_› (by rw [List.length_drop]; omega)))).2
  · exact str_eq (tx_none (hq.symm.trans (by rw [dropc (show i < s.length by omega), dropc (show i + 1 < s.length by omega)]; exact q_esco h92 ‹_› ‹_› ‹_› ‹_›))).1
  · exact i64_is (tx_none (hq.symm.trans (by rw [dropc (show i < s.length by omega), dropc (show i + 1 < s.length by omega)]; exact q_esco h92 ‹_› ‹_› ‹_› ‹_›))).2
end Go.Proofs.YtbgomheagkcmaaaDoor
/- The token statements: the token that a text begins with. -/
namespace Go.Proofs.YtbgomheagkcmaaaDoor
open Go.Sx Go.RowKit Go.Lib

section
variable {P : Program} {η : List Ob} {σ : Sl} {dst : Option Nat} {ty : TypeId} {pos : String} {after : Array Edge} {gd : Option (Nat × Bool)} {t yt : TypeId} {x y z : Operand}
theorem Y_take_l {l : List UInt8} {k : IntKind} {i : Int} (hx : oval σ x = .d (str l)) (hy : oval σ y = .d (.val (.int k i))) (hu : P.underlying t = some .string) (h0 : 0 ≤ i ∧ i ≤ (l.length : Int)) : Ylds P η σ ⟨dst, .slice t x none (some y) none, ty, pos, after, gd⟩ (.d (str (l.take i.toNat))) := by
  refine Ylds.same fun g w a hi h => ⟨_, ?_, .val _⟩
  have h1 := h x (by simp [Op.operands]); rw [hx] at h1
  have h2 := h y (by simp [Op.operands]); rw [hy] at h2
  have e : (⟨l.toArray⟩ : ByteArray).extract 0 i.toNat = ⟨(l.take i.toNat).toArray⟩ := by rw [ByteArray.extract_mk]; simp
  simp only [execOp, RepD.val_eq h1, RepD.val_eq h2, Option.map_some, Option.map_none, Sem.run_bind, run_sliceAt_string w t _ _ _ _ hu, run_slice_string_h w t _ hu k i h0.1 (by rw [str_size]; exact h0.2), Sem.run_pure, Result.andThen_ok, e]
end

theorem bt_01 (k : Int) (s : ByteArray) : Tryd.prog.built 37 [(0, .int .i64 k), (1, .string s)] = some (List.toArray [.int .i64 k, .string s, .int .i64 0, .int .i64 0]) := by kernel_rfl
theorem bt_013 (k : Int) (s : ByteArray) (a : Int) : Tryd.prog.built 37 [(0, .int .i64 k), (1, .string s), (3, .int .i64 a)] = some (List.toArray [.int .i64 k, .string s, .int .i64 0, .int .i64 a]) := by kernel_rfl
theorem bt_02 (k n : Int) : Tryd.prog.built 37 [(0, .int .i64 k), (2, .int .i64 n)] = some (List.toArray [.int .i64 k, .string ByteArray.empty, .int .i64 n, .int .i64 0]) := by kernel_rfl
theorem bt_023 (k n a : Int) : Tryd.prog.built 37 [(0, .int .i64 k), (2, .int .i64 n), (3, .int .i64 a)] = some (List.toArray [.int .i64 k, .string ByteArray.empty, .int .i64 n, .int .i64 a]) := by kernel_rfl
theorem bt_none : Tryd.prog.built 37 [] = some (List.toArray [.int .i64 0, .string ByteArray.empty, .int .i64 0, .int .i64 0]) := by kernel_rfl

def keyT (s : List UInt8) (k a : Int) : Tk := ⟨if isKey s then 6 else k, s, 0, a⟩
def tk0 : Tk := ⟨0, [], 0, 0⟩
attribute [local irreducible] hasBody Program.underlying Ylds astep alex alexE alexD awp PCall FCall RCall MCall QCall athen ablock ajump rpost fpost mpost

theorem one1_ok (s : List UInt8) (n : Nat) (k : Int) (hn : n ≤ s.length) : QCall Tryd.prog 53 [.d (i64 (n : Int)), .d (i64 k), .ptr 0 0] [.box [.d (str s)]] (.tup [(keyT (s.take n) k 0).av, i64 (n : Int), i64 0]) := by
  refine qcall_ofC Tryd.func53 rfl Tryd.ntmps53 Tryd.results53 rfl ?_
  intro wb St0
  repeat' first
    | refine en_n ?_
    | refine awp_seq ?_
    | refine awp_region ?_
    | refine alex_nil ?_
    | refine w0 ?_
    | (refine rpostC_ret ?_)
    | (refine resC_tup ?_)
    | exact RV_nil
    | (refine RV_d rfl ?_ ?_)
    | (refine RV_c rfl rfl tc_tok rfl rfl ?_ ?_)
    | (with_reducible exact rfl)
    | (apply Y_take_l; exact rfl; exact rfl; (with_reducible exact ustr); omega)
    | (apply Y_call (hb := hb_Key) (hc := Key_ok (s.take n)))
    | (apply Y_build2; exact rfl; exact rfl; (with_reducible exact bt_01 _ _); exact rfl)
    | (apply aAlloc (hd := rfl) (hro := rfl); exact (by first | with_reducible exact zo_tok | with_reducible exact zo_int | with_reducible exact zo_i64))
    | apply ay (hd := rfl)
    | (apply Y_move_d; exact rfl)
    | (apply Y_assign_d; exact rfl)
    | (apply Y_load_p; exact rfl; exact (by first | with_reducible exact tc_str | with_reducible exact tc_int | with_reducible exact tc_kind | with_reducible exact tc_tok | with_reducible exact tc_u8s | with_reducible exact tc_toks | with_reducible exact tc_strs | with_reducible exact tc_bool | with_reducible exact tc_err | with_reducible exact tc_i64); exact rfl; exact rfl)
    | (refine w0' ?_)
    | (apply aStore; exact rfl; exact rfl; exact rfl; exact (by first | with_reducible exact tc_str | with_reducible exact tc_int | with_reducible exact tc_kind | with_reducible exact tc_tok | with_reducible exact tc_u8s | with_reducible exact tc_toks | with_reducible exact tc_strs | with_reducible exact tc_bool | with_reducible exact tc_err | with_reducible exact tc_i64); exact rfl; exact rfl; exact rfl; exact rfl)
    | (apply awp_cond; exact rfl; (intro hb); rotate_left; (intro hb); rotate_right)
    | refine awp_skip ?_
    | refine awp_ret ?_
    | exact CoL_nil
    | refine CoL_d rfl ?_
  all_goals simp only [Tk.av, keyT, hb]; rfl
theorem named_ok (s : List UInt8) (k a : Int) : PCall Tryd.prog 58 [str s, i64 k, i64 a] (keyT s k a).av := by
  refine pcall_ofC Tryd.func58 rfl Tryd.ntmps58 Tryd.results58 rfl ?_
  intro wb St0
  repeat' first
    | refine en_n ?_
    | refine awp_seq ?_
    | refine awp_region ?_
    | refine alex_nil ?_
    | refine w0 ?_
    | (refine rpostC_ret ?_)
    | (refine resC_one ?_)
    | exact RV_nil
    | (refine RV_c rfl rfl tc_tok rfl rfl ?_ ?_)
    | (apply Y_call (hb := hb_rKey) (hc := rKey_ok s))
    | (apply Y_build3; exact rfl; exact rfl; exact rfl; (with_reducible exact bt_013 _ _ _); exact rfl)
    | (apply aAlloc (hd := rfl) (hro := rfl); exact (by first | with_reducible exact zo_tok | with_reducible exact zo_int | with_reducible exact zo_i64))
    | apply ay (hd := rfl)
    | (apply Y_move_d; exact rfl)
    | (apply Y_assign_d; exact rfl)
    | (refine w0' ?_)
    | (apply aStore; exact rfl; exact rfl; exact rfl; exact (by first | with_reducible exact tc_str | with_reducible exact tc_int | with_reducible exact tc_kind | with_reducible exact tc_tok | with_reducible exact tc_u8s | with_reducible exact tc_toks | with_reducible exact tc_strs | with_reducible exact tc_bool | with_reducible exact tc_err | with_reducible exact tc_i64); exact rfl; exact rfl; exact rfl; exact rfl)
    | (apply awp_cond; exact rfl; (intro hb); rotate_left; (intro hb); rotate_right)
    | refine awp_skip ?_
    | refine awp_ret ?_
    | exact CoL_nil
    | refine CoL_d rfl ?_
  all_goals simp only [Tk.av, keyT, hb]; rfl

def oneF (s : List UInt8) : Tk × Int × Int :=
  let c := s.getD 0 0
  if isSmall c then (keyT (s.take (spanF isInner s)) 1 0, (spanF isInner s : Int), 0)
  else if isGreat c then (keyT (s.take (spanF isInner s)) 2 0, (spanF isInner s : Int), 0)
  else if isSign c then (keyT (s.take (spanF isSign s)) 5 0, (spanF isSign s : Int), 0)
  else if c = 40 ∨ c = 41 ∨ c = 95 then (keyT (s.take 1) 6 0, 1, 0)
  else if Lib.hasPrefix s [59, 59] then (keyT (s.take 2) 6 0, 2, 0)
  else if isDigit c ∨ c = 126 then
    if rdOk (s.take (1 + spanF isDigit (s.drop 1))) then (⟨3, [], rdN (s.take (1 + spanF isDigit (s.drop 1))), 0⟩, ((1 + spanF isDigit (s.drop 1) : Nat) : Int), 0) else (tk0, 0, 31)
  else if c = 34 then (if quotedN s = 0 ∨ (quotedS s).length > 200 then (tk0, 0, 32) else (⟨4, quotedS s, 0, 0⟩, quotedN s, 0))
  else (tk0, 0, 30)

theorem u8i (c d : UInt8) : c = d ↔ (c.toNat : Int) = (d.toNat : Int) := by rw [← UInt8.toNat_inj]; omega
theorem oneF_int (s : List UInt8) : oneF s = (
  if 97 ≤ (s.getD 0 0).toNat ∧ (s.getD 0 0).toNat ≤ 122 then (keyT (s.take (spanF isInner s)) 1 0, (spanF isInner s : Int), 0)
  else if 65 ≤ (s.getD 0 0).toNat ∧ (s.getD 0 0).toNat ≤ 90 then (keyT (s.take (spanF isInner s)) 2 0, (spanF isInner s : Int), 0)
  else if isSign (s.getD 0 0) then (keyT (s.take (spanF isSign s)) 5 0, (spanF isSign s : Int), 0)
  else if ((s.getD 0 0).toNat : Int) = 40 ∨ ((s.getD 0 0).toNat : Int) = 41 ∨ ((s.getD 0 0).toNat : Int) = 95 then (keyT (s.take 1) 6 0, 1, 0)
  else if Lib.hasPrefix s [59, 59] then (keyT (s.take 2) 6 0, 2, 0)
  else if (48 ≤ (s.getD 0 0).toNat ∧ (s.getD 0 0).toNat ≤ 57) ∨ ((s.getD 0 0).toNat : Int) = 126 then
    if rdOk (s.take (1 + spanF isDigit (s.drop 1))) then (⟨3, [], rdN (s.take (1 + spanF isDigit (s.drop 1))), 0⟩, ((1 + spanF isDigit (s.drop 1) : Nat) : Int), 0) else (tk0, 0, 31)
  else if ((s.getD 0 0).toNat : Int) = 34 then (if quotedN s = 0 ∨ (quotedS s).length > 200 then (tk0, 0, 32) else (⟨4, quotedS s, 0, 0⟩, quotedN s, 0))
  else (tk0, 0, 30)) := by
  simp only [oneF, isSmall, isGreat, isDigit, decide_eq_true_eq, u8i (s.getD 0 0)]; rfl

theorem res_one {σ : Sl} {η : List Ob} {a b c id : Nat} {kb : Option Nat} {et : Option TypeId} {k num pos n e : Int} {s : List UInt8} {F : Tk × Int × Int} (h1 : get σ a = .ptr id 0) (ho : η[id]? = some (.bx kb et [.d (i64 k), .d (str s), .d (i64 num), .d (i64 pos)]))
    (h2 : get σ b = .d (i64 n)) (h3 : get σ c = .d (i64 e)) (hF : F = (⟨k, s, num, pos⟩, n, e)) : ResC Tryd.prog #[.cell a 37, .tmp b, .tmp c] σ η (.tup [F.1.av, i64 F.2.1, i64 F.2.2]) := by
  subst hF
  exact resC_tup (RV_c h1 ho tc_tok rfl rfl (RV_d h2 (RV_d h3 RV_nil rfl) rfl) rfl)
theorem rdE_ok {s : List UInt8} (h : rdE s ≠ 0) : rdOk s = false := by
  cases hr : rdOk s with
  | false => rfl
  | true => rw [rdE, hr] at h; exact absurd rfl h
theorem rdE_zero {s : List UInt8} (h : ¬ rdE s ≠ 0) : rdOk s = true := by
  cases hr : rdOk s with
  | true => rfl
  | false => rw [rdE, hr] at h; exact absurd (by decide) h

set_option maxHeartbeats 4000000 in
theorem one_ok (s : List UInt8) (hs : s.length ≤ 1000000) (h1 : 1 ≤ s.length) : PCall Tryd.prog 30 [str s] (.tup [(oneF s).1.av, i64 (oneF s).2.1, i64 (oneF s).2.2]) := by
  refine pcall_ofC Tryd.func30 rfl Tryd.ntmps30 Tryd.results30 rfl ?_
  intro wb St0
  have hi := spanF_le isInner s
  have hg := spanF_le isSign s
  have hd := spanF_le isDigit (s.drop (Int.toNat 1))
  have hdl : (s.drop (Int.toNat 1)).length = s.length - 1 := by rw [List.length_drop]; rfl
  have hrd : ∀ n, (s.take n).length ≤ 1000000 := fun n => by rw [List.length_take]; omega
  repeat' first
    | refine en_n ?_
    | refine awp_seq ?_
    | refine awp_region ?_
    | refine alex_nil ?_
    | refine w0 ?_
    | (refine rpostC_ret ?_)
    | (refine res_one rfl rfl rfl rfl ?_)
    | (apply k0u (hd := rfl); exact rfl; exact rfl)
    | (apply Y_len_l; exact rfl; with_reducible exact ustr)
    | (apply Y_idx_l; exact rfl; exact rfl; with_reducible exact ustr; (first | assumption | omega))
    | (apply Y_call (hb := hb_small) (hc := small_ok _))
    | (apply Y_call (hb := hb_great) (hc := great_ok _))
    | (apply Y_call (hb := hb_sign) (hc := sign_ok _))
    | (apply Y_call (hb := hb_digit) (hc := digit_ok _))
    | (apply Y_take_l; exact rfl; exact rfl; (with_reducible exact ustr); omega)
    | (apply Y_drop_l; exact rfl; exact rfl; (with_reducible exact ustr); omega)
    | (apply Y_move_clo; exact rfl)
    | (refine Y_qcall [] [] rfl rfl hb_span (span_ok _ isInner hb_inner inner_ok s hs) rfl ?_ rfl (by decide) rfl rfl rfl rfl; (repeat (refine SArgs_cons rfl ?_)); exact SArgs_nil)
    | (refine Y_qcall [] [] rfl rfl hb_span (span_ok _ isSign hb_sign sign_ok s hs) rfl ?_ rfl (by decide) rfl rfl rfl rfl; (repeat (refine SArgs_cons rfl ?_)); exact SArgs_nil)
    | (refine Y_qcall [] [] rfl rfl hb_span (span_ok _ isDigit hb_digit digit_ok (s.drop (Int.toNat 1)) (by omega)) rfl ?_ rfl (by decide) rfl rfl rfl rfl; (repeat (refine SArgs_cons rfl ?_)); exact SArgs_nil)
    | (refine Y_qcall [0] [0] rfl rfl hb_one1 (one1_ok s (spanF isInner s) 1 hi) rfl ?_ rfl (by decide) rfl rfl rfl rfl; (repeat (refine SArgs_cons rfl ?_)); exact SArgs_nil)
    | (refine Y_qcall [0] [0] rfl rfl hb_one1 (one1_ok s (spanF isInner s) 2 hi) rfl ?_ rfl (by decide) rfl rfl rfl rfl; (repeat (refine SArgs_cons rfl ?_)); exact SArgs_nil)
    | (refine Y_qcall [0] [0] rfl rfl hb_one1 (one1_ok s (spanF isSign s) 5 hg) rfl ?_ rfl (by decide) rfl rfl rfl rfl; (repeat (refine SArgs_cons rfl ?_)); exact SArgs_nil)
    | (refine Y_qcall [0] [0] rfl rfl hb_one1 (one1_ok s 1 6 h1) rfl ?_ rfl (by decide) rfl rfl rfl rfl; (repeat (refine SArgs_cons rfl ?_)); exact SArgs_nil)
    | (refine Y_qcall [0] [0] rfl rfl hb_one1 (one1_ok s 2 6 (hasPrefix_le (p := [59, 59]) ‹_›)) rfl ?_ rfl (by decide) rfl rfl rfl rfl; (repeat (refine SArgs_cons rfl ?_)); exact SArgs_nil)
    | (refine Y_call hb_HasPrefix (HasPrefix_ok s [59, 59]) (CoL_d rfl (CoL_d rfl CoL_nil)))
    | (refine Y_call hb_quoted (quoted_ok s hs h1) (CoL_d rfl CoL_nil))
    | (refine Y_call hb_wRead (wRead_ok _ (hrd _)) (CoL_d rfl CoL_nil))
    | (apply Y_build0; (with_reducible exact bt_none); exact rfl)
    | (apply Y_build2; exact rfl; exact rfl; (with_reducible exact bt_01 _ _); exact rfl)
    | (apply Y_build2; exact rfl; exact rfl; (with_reducible exact bt_02 _ _); exact rfl)
    | (apply aBox (hd := rfl) (hro := rfl); exact rfl; exact rfl)
    | (apply aAlloc (hd := rfl) (hro := rfl); exact (by first | with_reducible exact zo_tok | with_reducible exact zo_int | with_reducible exact zo_i64))
    | apply ay (hd := rfl)
    | (apply Y_move_d; exact rfl)
    | (apply Y_assign_d; exact rfl)
    | (apply Y_gtr; exact rfl; exact rfl)
    | (apply Y_eql; exact rfl; exact rfl)
    | (apply Y_neq; exact rfl; exact rfl)
    | (apply Y_add; exact rfl; exact rfl)
    | (apply Y_pick_t; exact rfl; exact rfl)
    | (apply Y_pick_f; exact rfl; exact rfl)
    | (apply Y_extract; exact rfl; exact rfl)
    | (apply Y_assign_clo; exact rfl)
    | (apply Y_load_p; exact rfl; exact (by first | with_reducible exact tc_str | with_reducible exact tc_int | with_reducible exact tc_kind | with_reducible exact tc_tok | with_reducible exact tc_u8s | with_reducible exact tc_toks | with_reducible exact tc_strs | with_reducible exact tc_bool | with_reducible exact tc_err | with_reducible exact tc_i64); exact rfl; exact rfl)
    | (apply Y_mkf; exact rfl)
    | (apply w1; exact rfl; exact rfl)
    | (apply gD; exact rfl; exact rfl; (intro hb); rotate_left; (intro hb); rotate_right)
    | (refine w0' ?_)
    | (apply aStore; exact rfl; exact rfl; exact rfl; exact (by first | with_reducible exact tc_str | with_reducible exact tc_int | with_reducible exact tc_kind | with_reducible exact tc_tok | with_reducible exact tc_u8s | with_reducible exact tc_toks | with_reducible exact tc_strs | with_reducible exact tc_bool | with_reducible exact tc_err | with_reducible exact tc_i64); exact rfl; exact rfl; exact rfl; exact rfl)
    | (apply awp_condD; exact rfl; (intro hb); rotate_left; (intro hb); rotate_right)
    | (apply awp_condT; exact rfl)
    | (apply awp_cond; exact rfl; (intro hb); rotate_left; (intro hb); rotate_right)
    | refine awp_block ?_
    | refine awp_skip ?_
    | refine awp_ret ?_
    | refine en_r ?_
    | refine eb_n ?_
    | refine eb_r ?_
    | exact CoL_nil
    | refine CoL_d rfl ?_
  all_goals try (refine ⟨?_, ?_⟩ <;> omega)
  all_goals
    rw [oneF_int]
    repeat first
      | (refine (if_pos ?_).trans ?_; (first | assumption | exact .inl ‹_› | exact .inr ‹_› | exact .inr (.inl ‹_›) | exact .inr (.inr ‹_›) | exact rdE_zero ‹_› | exact .inr (Int.ofNat_lt.1 ‹_›)))
      | (refine (if_neg ?_).trans ?_; (first | assumption | exact ne_true_of_eq_false ‹_› | exact ne_true_of_eq_false (rdE_ok ‹_›) | (rintro (h | h) <;> first | contradiction | omega) | (rintro (h | h | h) <;> contradiction)))
  all_goals first | rfl | trace_state
end Go.Proofs.YtbgomheagkcmaaaDoor
/- The token statements: the token at a place (the document's). -/
namespace Go.Proofs.YtbgomheagkcmaaaDoor
open Go.Sx Go.RowKit Go.Lib

/-! ### where a text ends that is written -/
theorem quotedG_lt (n : Nat) : ∀ (s b : List UInt8), s.length ≤ n → ∀ b' r, quotedG b s = some (b', r) → r.length < s.length := by
  induction n with
  | zero =>
    intro s b hs b' r h
    cases s with
    | nil => rw [q_nil] at h; cases h
    | cons c s => simp at hs
  | succ n ih =>
    intro s b hs b' r h
    cases s with
    | nil => rw [q_nil] at h; cases h
    | cons c s =>
      simp only [List.length_cons] at hs ⊢
      rw [q_cons] at h
      split at h
      · cases h; omega
      split at h
      · cases h
      split at h
      · have := ih s _ (by omega) _ _ h; omega
      cases s with
      | nil => cases h
      | cons d s =>
        simp only [List.length_cons] at hs ⊢
        dsimp only at h
        split at h
        · have := ih s _ (by omega) _ _ h; omega
        split at h
        · have := ih s _ (by omega) _ _ h; omega
        split at h
        · match s, h, hs with
          | x :: y :: s, h, hs =>
            simp only [List.length_cons] at hs ⊢
            dsimp only at h
            split at h
            · cases h
            · have := ih s _ (by omega) _ _ h; omega
          | [_], h, _ => cases h
          | [], h, _ => cases h
        · cases h
theorem quoted_pos {s b r : List UInt8} (h : quotedG [] (s.drop 1) = some (b, r)) : r.length < (s.drop 1).length := quotedG_lt _ _ _ (Nat.le_refl _) _ _ h
theorem text_quoted {s : List UInt8} {a : Nat} (ha : a < s.length) : textS s a = quotedS (s.drop a) ∧ (textN s a < 0 ↔ quotedN (s.drop a) = 0) ∧ (¬ textN s a < 0 → textN s a = a + quotedN (s.drop a)) := by
  have e : (s.drop a).drop 1 = s.drop (a + 1) := by rw [List.drop_drop]
  cases h : quotedG [] (s.drop (a + 1)) with
  | none =>
    rw [textS, textN, quotedS, quotedN, e, h]
    exact ⟨rfl, ⟨fun _ => rfl, fun _ => (by decide : (-1 : Int) < 0)⟩, fun h => absurd (by decide : (-1 : Int) < 0) h⟩
  | some x =>
    obtain ⟨b, r⟩ := x
    have h1 := quoted_pos (s := s.drop a) (by rw [e]; exact h)
    rw [textS, textN, quotedS, quotedN, e, h]
    simp only [List.length_drop] at h1
    dsimp only
    rw [List.length_drop]
    refine ⟨rfl, ⟨fun _ => ?_, fun _ => ?_⟩, fun _ => ?_⟩ <;> omega

/-! ### which way -/
def roneF (s : List UInt8) (a : Nat) : Tk × Int × Int := if (oneF (s.drop a)).2.2 = 0 then (⟨(oneF (s.drop a)).1.kind, (oneF (s.drop a)).1.text, (oneF (s.drop a)).1.num, a⟩, a + (oneF (s.drop a)).2.1, 0) else (tk0, 0, (oneF (s.drop a)).2.2)
theorem rone_of {s : List UInt8} {a : Nat} {t : Tk} {n : Int} (h : oneF (s.drop a) = (t, n, 0)) : roneF s a = (⟨t.kind, t.text, t.num, a⟩, a + n, 0) := by rw [roneF, h]; rfl
theorem rone_no {s : List UInt8} {a : Nat} {e : Int} (h : oneF (s.drop a) = (tk0, 0, e)) (he : e ≠ 0) : roneF s a = (tk0, 0, e) := by rw [roneF, h, if_neg he]
theorem cls1 : ∀ c, isK c = 1 → isSmall c = true := u8_all (by decide +kernel)
theorem cls2 : ∀ c, isK c = 2 → isSmall c = false ∧ isGreat c = true := u8_all (by decide +kernel)
theorem cls5 : ∀ c, isK c = 5 → isSmall c = false ∧ isGreat c = false ∧ isSign c = true := u8_all (by decide +kernel)
theorem cls3 : ∀ c, (isK c = 3 ∨ c = 126) → isSmall c = false ∧ isGreat c = false ∧ isSign c = false ∧ c ≠ 40 ∧ c ≠ 41 ∧ c ≠ 95 ∧ c ≠ 59 ∧ (isDigit c = true ∨ c = 126) := u8_all (by decide +kernel)
theorem cls0 : ∀ c, isK c ≠ 1 → isK c ≠ 2 → isK c ≠ 5 → isK c ≠ 3 → isSmall c = false ∧ isGreat c = false ∧ isSign c = false ∧ isDigit c = false := u8_all (by decide +kernel)
theorem pre59 {s : List UInt8} : Lib.hasPrefix s [59, 59] = true ↔ s.getD 0 0 = 59 ∧ 1 < s.length ∧ s.getD 1 0 = 59 := by
  match s with
  | [] => simp [Lib.hasPrefix]
  | [c] => simp [Lib.hasPrefix, List.isPrefixOf]
  | c :: d :: s =>
    simp [Lib.hasPrefix, List.isPrefixOf]
    constructor <;> rintro ⟨rfl, rfl⟩ <;> exact ⟨rfl, rfl⟩
theorem pre_not {s : List UInt8} (h : s.getD 0 0 ≠ 59) : Lib.hasPrefix s [59, 59] = false := by
  cases hp : Lib.hasPrefix s [59, 59] with
  | false => rfl
  | true => exact absurd (pre59.1 hp).1 h

theorem o_1 {s : List UInt8} (h : isK (s.getD 0 0) = 1) : oneF s = (keyT (s.take (spanF isInner s)) 1 0, (spanF isInner s : Int), 0) := by
  simp only [oneF, cls1 _ h, if_true]
theorem o_2 {s : List UInt8} (h : isK (s.getD 0 0) = 2) : oneF s = (keyT (s.take (spanF isInner s)) 2 0, (spanF isInner s : Int), 0) := by
  obtain ⟨h1, h2⟩ := cls2 _ h
  simp only [oneF, h1, h2, if_true, Bool.false_eq_true, if_false]
theorem o_5 {s : List UInt8} (h : isK (s.getD 0 0) = 5) : oneF s = (keyT (s.take (spanF isSign s)) 5 0, (spanF isSign s : Int), 0) := by
  obtain ⟨h1, h2, h3⟩ := cls5 _ h
  simp only [oneF, h1, h2, h3, if_true, Bool.false_eq_true, if_false]
theorem o_3 {s : List UInt8} (h : isK (s.getD 0 0) = 3 ∨ s.getD 0 0 = 126) : oneF s = if rdOk (s.take (1 + spanF isDigit (s.drop 1))) then (⟨3, [], rdN (s.take (1 + spanF isDigit (s.drop 1))), 0⟩, ((1 + spanF isDigit (s.drop 1) : Nat) : Int), 0) else (tk0, 0, 31) := by
  obtain ⟨h1, h2, h3, h4, h5, h6, h7, h8⟩ := cls3 _ h
  simp only [oneF, h1, h2, h3, h4, h5, h6, pre_not h7, h8, or_self, if_true, Bool.false_eq_true, if_false]
theorem o_34 {s : List UInt8} (h : s.getD 0 0 = 34) : oneF s = if quotedN s = 0 ∨ (quotedS s).length > 200 then (tk0, 0, 32) else (⟨4, quotedS s, 0, 0⟩, quotedN s, 0) := by
  have hp : Lib.hasPrefix s [59, 59] = false := pre_not (by rw [h]; decide)
  simp only [oneF, h, hp]
  rfl
theorem o_p {s : List UInt8} (h : s.getD 0 0 = 40 ∨ s.getD 0 0 = 41 ∨ s.getD 0 0 = 95) : oneF s = (keyT (s.take 1) 6 0, 1, 0) := by
  rcases h with h | h | h <;> simp only [oneF, h] <;> rfl
theorem o_s {s : List UInt8} (h : s.getD 0 0 = 59) (h1 : 1 < s.length) (h2 : s.getD 1 0 = 59) : oneF s = (keyT [59, 59] 6 0, 2, 0) := by
  have hp := pre59.2 ⟨h, h1, h2⟩
  have ht : s.take 2 = [59, 59] := by
    match s, h1, h, h2 with
    | c :: d :: s, _, h, h2 => simp at h h2; subst h; subst h2; rfl
  simp only [oneF, h, hp, ht]; rfl
theorem o_0 {s : List UInt8} (h1 : isK (s.getD 0 0) ≠ 1) (h2 : isK (s.getD 0 0) ≠ 2) (h3 : isK (s.getD 0 0) ≠ 5) (h4 : isK (s.getD 0 0) ≠ 3) (h5 : s.getD 0 0 ≠ 126) (h6 : s.getD 0 0 ≠ 34) (h7 : ¬ (s.getD 0 0 = 40 ∨ s.getD 0 0 = 41 ∨ s.getD 0 0 = 95)) (h8 : Lib.hasPrefix s [59, 59] = false) : oneF s = (tk0, 0, 30) := by
  obtain ⟨g1, g2, g3, g4⟩ := cls0 _ h1 h2 h3 h4
  simp only [oneF, g1, g2, g3, g4, h5, h6, h7, h8, or_self, Bool.false_eq_true, if_false]

theorem fin_key {s L : List UInt8} {a n : Nat} {k k' tn : Int} (h : oneF (s.drop a) = (keyT ((s.drop a).take n) k 0, (n : Int), 0)) (hk : k' = k) (hL : L = (s.drop a).take n) (hto : tn = (a : Int) + n) : roneF s a = (⟨(keyT L k' a).kind, (keyT L k' a).text, (keyT L k' a).num, (keyT L k' a).pos⟩, tn, 0) := by
  subst hk; subst hL; subst hto; rw [rone_of h]; rfl
theorem fin_num {s L : List UInt8} {a : Nat} {tn : Int} (h : isK (s.getD a 0) = 3 ∨ s.getD a 0 = 126) (hL : L = (s.drop a).take (1 + spanF isDigit (s.drop (a + 1)))) (hto : tn = (a : Int) + (1 + spanF isDigit (s.drop (a + 1)) : Nat)) :
    ((!rdOk L) = true → roneF s a = (tk0, 0, 31)) ∧ ((!rdOk L) = false → roneF s a = (⟨3, [], rdN L, a⟩, tn, 0)) := by
  subst hto
  have hc : (s.drop a).getD 0 0 = s.getD a 0 := drop_getD s a 0
  have h3 := o_3 (s := s.drop a) (by rw [hc]; exact h)
  rw [List.drop_drop, ← hL] at h3
  refine ⟨fun h => rone_no (h3.trans (if_neg (by simpa using h))) (by decide), fun h => ?_⟩
  rw [rone_of (h3.trans (if_pos (by simpa using h)))]
theorem fin_txt {s : List UInt8} {a : Nat} (ha : a < s.length) (h : s.getD a 0 = 34) : (textN s a < 0 ∨ ((textS s a).length : Int) > 200 → roneF s a = (tk0, 0, 32)) ∧ (¬ textN s a < 0 → ¬ ((textS s a).length : Int) > 200 → roneF s a = (⟨4, textS s a, 0, a⟩, textN s a, 0)) := by
  have hc : (s.drop a).getD 0 0 = s.getD a 0 := drop_getD s a 0
  have h4 := o_34 (s := s.drop a) (by rw [hc]; exact h)
  obtain ⟨e1, e2, e3⟩ := text_quoted ha
  rw [e1]
  refine ⟨fun h => rone_no (h4.trans (if_pos (h.imp e2.1 (fun h => by omega)))) (by decide), fun h1 h2 => ?_⟩
  rw [rone_of (h4.trans (if_neg (by rintro (h | h); exact h1 (e2.2 h); omega))), ← e3 h1]

theorem btw33 : ∀ c, btw 3 3 c = isDigit c := u8_all (by decide +kernel)
theorem while14_ok (s : List UInt8) (a : Nat) (hs : s.length ≤ 1000000) (ha : a ≤ s.length) : PCall Tryd.prog 43 [str s, i64 (a : Int), i64 1, i64 4] (i64 ((a + spanF isInner (s.drop a) : Nat) : Int)) := by
  have := while_ok s a 1 4 hs ha; rwa [show btw 1 4 = isInner from funext btw14] at this
theorem while55_ok (s : List UInt8) (a : Nat) (hs : s.length ≤ 1000000) (ha : a ≤ s.length) : PCall Tryd.prog 43 [str s, i64 (a : Int), i64 5, i64 5] (i64 ((a + spanF isSign (s.drop a) : Nat) : Int)) := by
  have := while_ok s a 5 5 hs ha; rwa [show btw 5 5 = isSign from funext btw55] at this
theorem while33_ok (s : List UInt8) (a : Nat) (hs : s.length ≤ 1000000) (ha : a ≤ s.length) : PCall Tryd.prog 43 [str s, i64 (a : Int), i64 3, i64 3] (i64 ((a + spanF isDigit (s.drop a) : Nat) : Int)) := by
  have := while_ok s a 3 3 hs ha; rwa [show btw 3 3 = isDigit from funext btw33] at this
attribute [local irreducible] hasBody Program.underlying Ylds astep alex alexE alexD awp PCall FCall RCall MCall QCall athen ablock ajump rpost fpost mpost

set_option maxHeartbeats 4000000 in
theorem rone_ok (s : List UInt8) (a : Nat) (hs : s.length ≤ 1000000) (ha : a < s.length) : PCall Tryd.prog 31 [str s, i64 (a : Int)] (.tup [(roneF s a).1.av, i64 (roneF s a).2.1, i64 (roneF s a).2.2]) := by
  refine pcall_ofC Tryd.func31 rfl Tryd.ntmps31 Tryd.results31 rfl ?_
  intro wb St0
  have hi := spanF_le isInner (s.drop a)
  have hg := spanF_le isSign (s.drop a)
  have hd := spanF_le isDigit (s.drop (a + 1))
  rw [List.length_drop] at hi hg hd
  have hrd : ∀ n m, ((s.drop n).take m).length ≤ 1000000 := fun n m => by rw [List.length_take, List.length_drop]; omega
  repeat' first
    | refine en_n ?_
    | refine awp_seq ?_
    | refine awp_region ?_
    | refine alex_nil ?_
    | refine w0 ?_
    | (refine rpostC_ret ?_)
    | (refine res_one rfl rfl rfl rfl ?_)
    | (apply k1u (hd := rfl); exact rfl; exact rfl)
    | (apply k0u (hd := rfl); exact rfl; exact rfl)
    | (apply Y_len_l; exact rfl; with_reducible exact ustr)
    | (apply Y_idx_l; exact rfl; exact rfl; with_reducible exact ustr; (first | assumption | omega))
    | (apply Y_sub_l; exact rfl; exact rfl; exact rfl; with_reducible exact ustr; (first | assumption | omega))
    | (apply Y_call (hb := hb_is) (hc := is_ok _))
    | (refine Y_call hb_while (while14_ok s a hs (by omega)) (CoL_d rfl (CoL_d rfl (CoL_d rfl (CoL_d rfl CoL_nil)))))
    | (refine Y_call hb_while (while55_ok s a hs (by omega)) (CoL_d rfl (CoL_d rfl (CoL_d rfl (CoL_d rfl CoL_nil)))))
    | (refine Y_call hb_while (while33_ok s (a + 1) hs (by omega)) (CoL_d rfl (CoL_d rfl (CoL_d rfl (CoL_d rfl CoL_nil)))))
    | (refine Y_call hb_named (named_ok _ _ _) (CoL_d rfl (CoL_d rfl (CoL_d rfl CoL_nil))))
    | (refine Y_call hb_text (text_ok s a hs ha) (CoL_d rfl (CoL_d rfl CoL_nil)))
    | (refine Y_call hb_rRead (rRead_ok _ (hrd _ _)) (CoL_d rfl CoL_nil))
    | (apply Y_build0; (with_reducible exact bt_none); exact rfl)
    | (apply Y_build3; exact rfl; exact rfl; exact rfl; (with_reducible exact bt_013 _ _ _); exact rfl)
    | (apply Y_build3; exact rfl; exact rfl; exact rfl; (with_reducible exact bt_023 _ _ _); exact rfl)
    | (apply aAlloc (hd := rfl) (hro := rfl); exact (by first | with_reducible exact zo_tok | with_reducible exact zo_int | with_reducible exact zo_i64))
    | apply ay (hd := rfl)
    | (apply Y_move_d; exact rfl)
    | (apply Y_assign_d; exact rfl)
    | (apply Y_lss; exact rfl; exact rfl)
    | (apply Y_gtr; exact rfl; exact rfl)
    | (apply Y_eql; exact rfl; exact rfl)
    | (apply Y_add; exact rfl; exact rfl)
    | (apply Y_not; exact rfl)
    | (apply Y_pick_t; exact rfl; exact rfl)
    | (apply Y_pick_f; exact rfl; exact rfl)
    | (apply Y_extract; exact rfl; exact rfl)
    | (apply w1; exact rfl; exact rfl)
    | (apply gD; exact rfl; exact rfl; (intro hb); rotate_left; (intro hb); rotate_right)
    | (refine w0' ?_)
    | (apply aStore; exact rfl; exact rfl; exact rfl; exact (by first | with_reducible exact tc_str | with_reducible exact tc_int | with_reducible exact tc_kind | with_reducible exact tc_tok | with_reducible exact tc_u8s | with_reducible exact tc_toks | with_reducible exact tc_strs | with_reducible exact tc_bool | with_reducible exact tc_err | with_reducible exact tc_i64); exact rfl; exact rfl; exact rfl; exact rfl)
    | (apply awp_condD; exact rfl; (intro hb); rotate_left; (intro hb); rotate_right)
    | (apply awp_condT; exact rfl)
    | (apply awp_condF; exact rfl)
    | (apply awp_cond; exact rfl; (intro hb); rotate_left; (intro hb); rotate_right)
    | refine awp_skip ?_
    | refine awp_ret ?_
    | refine en_r ?_
    | exact CoL_nil
    | refine CoL_d rfl ?_
  all_goals try omega
  all_goals try (refine ⟨?_, ?_⟩ <;> omega)
  all_goals
    have hc : (s.drop a).getD 0 0 = s.getD a 0 := drop_getD s a 0
    have hc1 : (s.drop a).getD 1 0 = s.getD (a + 1) 0 := drop_getD s a 1
    have hl1 : (s.drop a).length = s.length - a := List.length_drop
    have eL : ∀ n : Nat, Int.toNat ((a + n : Nat) : Int) - Int.toNat (a : Int) = n := fun n => by omega
    have eL1 : Int.toNat ((a : Int) + 1) - Int.toNat (a : Int) = 1 := by omega
    have eL2 : Int.toNat ((a + 1 + spanF isDigit (s.drop (a + 1)) : Nat) : Int) - Int.toNat (a : Int) = 1 + spanF isDigit (s.drop (a + 1)) := by omega
  · exact fin_key (o_1 (by rw [hc]; exact hb)) hb (by rw [eL]; rfl) (by omega)
  · exact fin_key (o_2 (by rw [hc]; exact hb)) hb (by rw [eL]; rfl) (by omega)
  · exact fin_key (o_5 (by rw [hc]; exact hb)) rfl (by rw [eL]; rfl) (by omega)
  · exact (fin_num (.inl ‹_›) (by rw [eL2]; rfl) rfl).1 hb
  · exact (fin_num (.inl ‹_›) (by rw [eL2]; rfl) (by omega)).2 hb
  · exact (fin_num (.inr (c_eq 126 ‹_›)) (by rw [eL2]; rfl) rfl).1 hb
  · exact (fin_num (.inr (c_eq 126 ‹_›)) (by rw [eL2]; rfl) (by omega)).2 hb
  · exact (fin_txt ha (c_eq 34 ‹_›)).1 (.inl hb)
  · exact (fin_txt ha (c_eq 34 ‹_›)).1 (.inr hb)
  · exact (fin_txt ha (c_eq 34 ‹_›)).2 ‹_› hb
  · exact fin_key (o_p (by rw [hc]; exact .inl (c_eq 40 ‹_›))) rfl (by rw [eL1]; rfl) (by omega)
  · exact fin_key (o_p (by rw [hc]; exact .inr (.inl (c_eq 41 ‹_›)))) rfl (by rw [eL1]; rfl) (by omega)
  · exact fin_key (o_p (by rw [hc]; exact .inr (.inr (c_eq 95 ‹_›)))) rfl (by rw [eL1]; rfl) (by omega)
  · have e := o_s (s := s.drop a) (by rw [hc]; exact c_eq 59 ‹_›) (by omega) (by rw [hc1]; exact c_eq 59 hb)
    rw [rone_of e]; rfl
  all_goals
    refine rone_no (o_0 ?_ ?_ ?_ ?_ ?_ ?_ ?_ ?_) (by decide)
    all_goals try rw [hc]
    · assumption
    · assumption
    · assumption
    · assumption
    · intro h; rw [u8i] at h; contradiction
    · intro h; rw [u8i] at h; contradiction
    · rw [u8i, u8i (s.getD a 0) 41, u8i (s.getD a 0) 95]; rintro (h | h | h) <;> contradiction
    · cases hp : Lib.hasPrefix (s.drop a) [59, 59] with
      | false => rfl
      | true =>
        obtain ⟨g1, g2, g3⟩ := pre59.1 hp
        rw [hc, u8i] at g1; rw [hc1, u8i] at g3
        first | contradiction | omega
end Go.Proofs.YtbgomheagkcmaaaDoor
/- The token statements: the tokens of a text, plainly. -/
namespace Go.Proofs.YtbgomheagkcmaaaDoor
open Go.Sx Go.RowKit Go.Lib

theorem span_pos {p : UInt8 → Bool} {s : List UInt8} (h : s ≠ []) (hp : p (s.getD 0 0) = true) : 1 ≤ spanF p s := by
  cases s with
  | nil => exact absurd rfl h
  | cons c s => rw [spanF, if_pos (by exact hp)]; omega
theorem small_inner : ∀ c, isSmall c = true → isInner c = true := u8_all (by decide +kernel)
theorem great_inner : ∀ c, isGreat c = true → isInner c = true := u8_all (by decide +kernel)
theorem quotedN_len {s : List UInt8} (h : s ≠ []) : quotedN s = 0 ∨ (2 ≤ quotedN s ∧ quotedN s ≤ s.length) := by
  cases e : quotedG [] (s.drop 1) with
  | none => left; rw [quotedN, e]
  | some x =>
    right
    obtain ⟨b, r⟩ := x
    have h1 := quoted_pos e
    have : 1 ≤ s.length := by cases s with | nil => exact absurd rfl h | cons => simp
    rw [List.length_drop] at h1
    rw [quotedN, e]; dsimp only; omega
/-- a token takes a byte at least, and no more than there are -/
theorem one_len {s : List UInt8} (h : s ≠ []) (he : (oneF s).2.2 = 0) : 1 ≤ (oneF s).2.1 ∧ (oneF s).2.1 ≤ s.length := by
  have h1 : 1 ≤ s.length := by cases s with | nil => exact absurd rfl h | cons => simp
  have hi := spanF_le isInner s
  have hg := spanF_le isSign s
  have hd := spanF_le isDigit (s.drop 1)
  rw [List.length_drop] at hd
  revert he
  unfold oneF
  dsimp only
  split
  · rename_i hc; have := span_pos h (small_inner _ hc); intro _; dsimp only; omega
  split
  · rename_i hc; have := span_pos h (great_inner _ hc); intro _; dsimp only; omega
  split
  · rename_i hc; have := span_pos h hc; intro _; dsimp only; omega
  split
  · intro _; dsimp only; omega
  split
  · rename_i hp; have := hasPrefix_le (p := [59, 59]) hp; simp at this; intro _; dsimp only; omega
  split
  · split
    · intro _; dsimp only; omega
    · intro h; exact absurd h (by decide)
  split
  · split
    · intro h; exact absurd h (by decide)
    · rename_i hq; have := quotedN_len h; intro _; dsimp only; omega
  · intro h; exact absurd h (by decide)

def at_ (t : Tk) (a : Nat) : Tk := ⟨t.kind, t.text, t.num, a⟩
def lexG : Nat → List UInt8 → Nat → List Tk → List Tk × Int × Int
  | 0, _, _, acc => (acc, 0, 0)
  | _ + 1, [], _, acc => (acc, 0, 0)
  | n + 1, c :: r, a, acc =>
    if c = 32 ∨ c = 10 then lexG n r (a + 1) acc
    else if c = 35 then lexG n ((c :: r).drop (spanF isBound (c :: r))) (a + spanF isBound (c :: r)) acc
    else if (oneF (c :: r)).2.2 ≠ 0 then ([], a, (oneF (c :: r)).2.2)
    else if acc.length = 4000 then ([], a, 33)
    else lexG n ((c :: r).drop (oneF (c :: r)).2.1.toNat) (a + (oneF (c :: r)).2.1.toNat) (acc ++ [at_ (oneF (c :: r)).1 a])
theorem bound_pos {c : UInt8} {r : List UInt8} (h : c = 35) : 1 ≤ spanF isBound (c :: r) := span_pos (by simp) (by subst h; rfl)
theorem lexG_fuel : ∀ (n m : Nat) (s : List UInt8) (a : Nat) (acc : List Tk), s.length ≤ n → s.length ≤ m → lexG n s a acc = lexG m s a acc
  | 0, 0, _, _, _, _, _ => rfl
  | 0, m + 1, [], _, _, _, _ => rfl
  | n + 1, 0, [], _, _, _, _ => rfl
  | n + 1, m + 1, [], _, _, _, _ => rfl
  | 0, _, _ :: _, _, _, h, _ => by simp at h
  | _ + 1, 0, _ :: _, _, _, _, h => by simp at h
  | n + 1, m + 1, c :: r, a, acc, h, h2 => by
    simp only [List.length_cons] at h h2
    rw [lexG, lexG]
    split
    · exact lexG_fuel n m r _ _ (by omega) (by omega)
    split
    · rename_i hc
      have := bound_pos (r := r) hc
      exact lexG_fuel n m _ _ _ (by rw [List.length_drop, List.length_cons]; omega) (by rw [List.length_drop, List.length_cons]; omega)
    split
    · rfl
    split
    · rfl
    · rename_i he _
      have := one_len (s := c :: r) (by simp) (Decidable.not_not.1 he)
      exact lexG_fuel n m _ _ _ (by rw [List.length_drop, List.length_cons]; omega) (by rw [List.length_drop, List.length_cons]; omega)
/-- the tokens of a text, from a place on, behind others -/
def lexS (s : List UInt8) (a : Nat) (acc : List Tk) : List Tk × Int × Int := lexG s.length s a acc
def lexF (s : List UInt8) : List Tk × Int × Int := lexS s 0 []
theorem lexS_nil (a : Nat) (acc : List Tk) : lexS [] a acc = (acc, 0, 0) := rfl
theorem lexS_cons (c : UInt8) (r : List UInt8) (a : Nat) (acc : List Tk) : lexS (c :: r) a acc =
    if c = 32 ∨ c = 10 then lexS r (a + 1) acc
    else if c = 35 then lexS ((c :: r).drop (spanF isBound (c :: r))) (a + spanF isBound (c :: r)) acc
    else if (oneF (c :: r)).2.2 ≠ 0 then ([], a, (oneF (c :: r)).2.2)
    else if acc.length = 4000 then ([], a, 33)
    else lexS ((c :: r).drop (oneF (c :: r)).2.1.toNat) (a + (oneF (c :: r)).2.1.toNat) (acc ++ [at_ (oneF (c :: r)).1 a]) := by
  have hl : (c :: r).length = r.length + 1 := rfl
  rw [lexS, hl, lexG]
  split
  · rfl
  split
  · rename_i hc
    have := bound_pos (r := r) hc
    exact lexG_fuel _ _ _ _ _ (by rw [List.length_drop, List.length_cons]; omega) (Nat.le_refl _)
  split
  · rfl
  split
  · rfl
  · rename_i he _
    have := one_len (s := c :: r) (by simp) (Decidable.not_not.1 he)
    exact lexG_fuel _ _ _ _ _ (by rw [List.length_drop, List.length_cons]; omega) (Nat.le_refl _)

section
variable {s : List UInt8} {a : Nat} {acc : List Tk}
theorem lx_end (h : s.length ≤ a) : lexS (s.drop a) a acc = (acc, 0, 0) := by rw [List.drop_eq_nil_of_le h]; rfl
theorem lx_blank (h : a < s.length) (hc : ((s.getD a 0).toNat : Int) = 32 ∨ ((s.getD a 0).toNat : Int) = 10) : lexS (s.drop a) a acc = lexS (s.drop (a + 1)) (a + 1) acc := by
  rw [dropc h, lexS_cons, if_pos (hc.imp (c_eq 32) (c_eq 10))]
theorem lx_note (h : a < s.length) (hc : ((s.getD a 0).toNat : Int) = 35) : lexS (s.drop a) a acc = lexS (s.drop (a + spanF isBound (s.drop a))) (a + spanF isBound (s.drop a)) acc ∧ 1 ≤ spanF isBound (s.drop a) := by
  have e := c_eq 35 hc
  have h1 : 1 ≤ spanF isBound (s.drop a) := by rw [dropc h]; exact bound_pos e
  refine ⟨?_, h1⟩
  conv => lhs; rw [dropc h, lexS_cons]
  rw [if_neg (by rw [e]; decide), if_pos e, ← dropc h, List.drop_drop]
theorem lx_ne (h : a < s.length) : s.drop a ≠ [] := by rw [dropc h]; simp
theorem lx_one (h : a < s.length) (h1 : ¬ ((s.getD a 0).toNat : Int) = 32) (h2 : ¬ ((s.getD a 0).toNat : Int) = 10) (h3 : ¬ ((s.getD a 0).toNat : Int) = 35) : lexS (s.drop a) a acc =
    if (oneF (s.drop a)).2.2 ≠ 0 then ([], (a : Int), (oneF (s.drop a)).2.2) else if acc.length = 4000 then ([], (a : Int), 33)
    else lexS (s.drop (a + (oneF (s.drop a)).2.1.toNat)) (a + (oneF (s.drop a)).2.1.toNat) (acc ++ [at_ (oneF (s.drop a)).1 a]) := by
  conv => lhs; rw [dropc h, lexS_cons]
  rw [if_neg (by rintro (h | h); exact h1 (by rw [h]; rfl); exact h2 (by rw [h]; rfl)), if_neg (by intro h; exact h3 (by rw [h]; rfl)), ← dropc h, List.drop_drop]
theorem lx_err (h : a < s.length) (h1 : ¬ ((s.getD a 0).toNat : Int) = 32) (h2 : ¬ ((s.getD a 0).toNat : Int) = 10) (h3 : ¬ ((s.getD a 0).toNat : Int) = 35) (he : (oneF (s.drop a)).2.2 ≠ 0) : lexS (s.drop a) a acc = ([], (a : Int), (oneF (s.drop a)).2.2) := by rw [lx_one h h1 h2 h3, if_pos he]
theorem lx_many (h : a < s.length) (h1 : ¬ ((s.getD a 0).toNat : Int) = 32) (h2 : ¬ ((s.getD a 0).toNat : Int) = 10) (h3 : ¬ ((s.getD a 0).toNat : Int) = 35) (he : (oneF (s.drop a)).2.2 = 0) (hm : (acc.length : Int) = 4000) : lexS (s.drop a) a acc = ([], (a : Int), 33) := by rw [lx_one h h1 h2 h3, if_neg (fun h => h he), if_pos (by omega)]
theorem lx_tok (h : a < s.length) (h1 : ¬ ((s.getD a 0).toNat : Int) = 32) (h2 : ¬ ((s.getD a 0).toNat : Int) = 10) (h3 : ¬ ((s.getD a 0).toNat : Int) = 35) (he : (oneF (s.drop a)).2.2 = 0) (hm : ¬ (acc.length : Int) = 4000) : lexS (s.drop a) a acc = lexS (s.drop (a + (oneF (s.drop a)).2.1.toNat)) (a + (oneF (s.drop a)).2.1.toNat) (acc ++ [at_ (oneF (s.drop a)).1 a]) := by rw [lx_one h h1 h2 h3, if_neg (fun h => h he), if_neg (by omega)]
end
end Go.Proofs.YtbgomheagkcmaaaDoor
/- The token statements: the walk of Lex. -/
namespace Go.Proofs.YtbgomheagkcmaaaDoor
open Go.Sx Go.RowKit Go.Lib

section
variable {C : Ctx} {ops : Array Oper} {rest : List Oper} {K : Sl → List Ob → Prop} {σ : Sl} {η : List Ob} {d : Nat} {ty : TypeId} {pos : String} {after : Array Edge} {gd : Option (Nat × Bool)} {t : TypeId} {x y : Operand}
/-- a token more -/
theorem aAppT {id n e by' : Nat} {mu : Bool} {L : List Tk} {v : D} (c : Tk) (hx : oval σ x = .buf id n) (ho : η[id]? = some (.buf mu e 4 (L.map Tk.av))) (hy : oval σ y = .d (.slice [v])) (hv : v = c.av) (hn : n = L.length)
    (he : elemTy C.P t = some e) (hs : elemSize C.P t = some 4) (hz : zeroLen C.P e = some 4) (hb : bytesOf C.P t = some by') (hby : by' = 40) (hd : Nat.blt d C.N = true) (hro : Nat.ble C.ro id = true) (hlen : L.length ≤ 1000000000)
    (h : alex C false ops rest K ((d, .buf id (L ++ [c]).length) :: killσ id σ) ((killη id η).set id (.buf mu e 4 ((L ++ [c]).map Tk.av)))) :
    astep C false ops ⟨some d, .call ⟨.builtin .append, #[x, y], #[t, t]⟩, ty, pos, after, gd⟩ rest K σ η := by
  subst hv; subst hn; subst hby
  refine aApp (id := id) (n := L.length) (mu := mu) (m := 1) (xs := L.map Tk.av) (ys := [c.av]) hx ho (Co_dd hy) (by simp) rfl he hs hz hb hd hro (fun d hd => by simp at hd; subst hd; rfl) (by omega) ?_
  rw [show L.length + 1 = (L ++ [c]).length by simp, show L.map Tk.av ++ [c.av] = (L ++ [c]).map Tk.av by simp]; exact h
end
theorem av_app (L : List Tk) (t : Tk) : L.map Tk.av ++ [t.av] = (L ++ [t]).map Tk.av := by simp
attribute [local irreducible] hasBody Program.underlying Ylds astep alex alexE alexD awp PCall FCall RCall MCall QCall athen ablock ajump rpost fpost mpost rpostC

abbrev LxI (s : List UInt8) (x : Nat × List Tk) : Prop := x.1 ≤ s.length ∧ x.2.length ≤ x.1 ∧ lexS (s.drop x.1) x.1 x.2 = lexF s
abbrev LxS (s : List UInt8) (x : Nat × List Tk) : Sl := [(0, .d (str s)), (5, .buf 0 x.2.length), (6, .d (i64 (x.1 : Int)))]
abbrev LxO (x : Nat × List Tk) : List Ob := [.buf false 37 4 (x.2.map Tk.av)]

theorem res_lex {σ : Sl} {η : List Ob} {a b c id n : Nat} {L : List Tk} {F : List Tk × Int × Int} {x y : Int} (h1 : get σ a = .buf id n) (ho : η[id]? = some (.buf false 37 4 (L.map Tk.av))) (hn : n = L.length) (h2 : get σ b = .d (i64 x)) (h3 : get σ c = .d (i64 y)) (hF : F = (L, x, y)) : ResC Tryd.prog #[.tmp a, .tmp b, .tmp c] σ η (.tup [toks F.1, i64 F.2.1, i64 F.2.2]) := by
  subst hF; exact resC_tup (RV_b h1 ho (by simpa using hn) (RV_d h2 (RV_d h3 RV_nil rfl) rfl) rfl)
theorem res_lexn {σ : Sl} {η : List Ob} {a b c : Nat} {F : List Tk × Int × Int} {x y : Int} (h1 : get σ a = .nil) (h2 : get σ b = .d (i64 x)) (h3 : get σ c = .d (i64 y)) (hF : F = ([], x, y)) : ResC Tryd.prog #[.tmp a, .tmp b, .tmp c] σ η (.tup [toks F.1, i64 F.2.1, i64 F.2.2]) := by
  subst hF; exact resC_tup (RV_n h1 (RV_d h2 (RV_d h3 RV_nil rfl) rfl) rfl)

set_option maxHeartbeats 4000000 in
theorem Lex_ok (s : List UInt8) (hs : s.length ≤ 1000000) : PCall Tryd.prog 11 [str s] (.tup [toks (lexF s).1, i64 (lexF s).2.1, i64 (lexF s).2.2]) := by
  refine pcall_ofC Tryd.func11 rfl Tryd.ntmps11 Tryd.results11 rfl ?_
  intro wb St0
  refine awp_seq ?_
  repeat' first
    | refine en_n ?_
    | refine awp_region ?_
    | refine alex_nil ?_
    | refine w0 ?_
    | apply ay (hd := rfl)
    | (apply Y_assign_d; exact rfl)
    | (apply Y_assign_nil; exact rfl)
  refine awp_scopeF2 (α := Nat × List Tk) 0 rfl rfl (LxI s) (LxS s) LxO (fun x => s.length - x.1) ?_ ?_
  · skip
    repeat' first
      | (refine awp_newbuf 5 false 37 4 rfl rfl ?_)
      | refine en_n ?_
      | refine awp_region ?_
      | refine alex_nil ?_
      | refine w0 ?_
      | apply ay (hd := rfl)
      | (apply Y_assign_d; exact rfl)
      | (apply Y_assign_nil; exact rfl)
    exact ⟨(0, []), ⟨Nat.zero_le _, Nat.zero_le _, rfl⟩, Fits_mk (Le_cons rfl (Le_cons rfl (Le_cons rfl Le_nil))) (Pre_cons rfl rfl Pre_nil) rfl rfl⟩
  rintro ⟨a0, acc⟩ ⟨h1, h2, h3⟩
  dsimp only at h1 h2 h3
  repeat' first
    | refine awp_seq ?_
    | refine awp_block ?_
  refine awp_loopF (α := Nat) (fun a => a0 ≤ a ∧ a ≤ s.length ∧ lexS (s.drop a) a acc = lexF s) (fun a => [(0, .d (str s)), (5, .buf 0 acc.length), (6, .d (i64 (a : Int)))]) (fun _ => [.buf false 37 4 (acc.map Tk.av)]) (fun a => s.length - a) a0 ⟨Nat.le_refl _, h1, h3⟩
      (Fits_mk (Le_cons rfl (Le_cons rfl (Le_cons rfl Le_nil))) (Pre_cons rfl rfl Pre_nil) rfl rfl) ?_
  rintro a ⟨ha0, ha, hl⟩
  clear h3
  have hsp := spanF_le isBound (s.drop (Int.toNat (a : Int)))
  have hdl : (s.drop (Int.toNat (a : Int))).length = s.length - a := List.length_drop
  repeat' first
    | (refine rpostC_ret ?_)
    | (refine res_lex rfl rfl rfl rfl rfl ?_)
    | (refine res_lexn rfl rfl rfl ?_)
    | refine en_n ?_
    | refine awp_seq ?_
    | refine awp_region ?_
    | refine alex_nil ?_
    | refine w0 ?_
    | (apply kU (hd := rfl); exact rfl; exact rfl)
    | (apply k1u (hd := rfl); exact rfl; exact rfl)
    | (apply k0u (hd := rfl); exact rfl; exact rfl)
    | (apply Y_len_l; exact rfl; with_reducible exact ustr)
    | (apply Y_idx_l; exact rfl; exact rfl; with_reducible exact ustr; (first | assumption | omega))
    | (apply Y_drop_l; exact rfl; exact rfl; (with_reducible exact ustr); omega)
    | (refine Y_qcall [] [] rfl rfl hb_span (span_ok _ isBound hb_Lex1 Lex1_ok (s.drop (Int.toNat (a : Int))) (by omega)) rfl ?_ rfl (by decide) rfl rfl rfl rfl; (repeat (refine SArgs_cons rfl ?_)); exact SArgs_nil)
    | (apply aAppT (at_ (oneF (s.drop (Int.toNat (a : Int)))).1 a) (hd := rfl) (hro := rfl); exact rfl; exact rfl; exact rfl; exact rfl; exact rfl; (with_reducible exact ety_toks); (with_reducible exact es_toks); (with_reducible exact zl_tok); (with_reducible exact by_toks); exact rfl; omega)
    | (refine Y_call hb_one (one_ok (s.drop (Int.toNat (a : Int))) (by omega) (by omega)) (CoL_d rfl CoL_nil))
    | (apply aAlloc (hd := rfl) (hro := rfl); exact (by first | with_reducible exact zo_tok | with_reducible exact zo_int | with_reducible exact zo_i64))
    | apply ay (hd := rfl)
    | (apply Y_move_d; exact rfl)
    | (apply Y_assign_d; exact rfl)
    | (apply Y_lss; exact rfl; exact rfl)
    | (apply Y_eql; exact rfl; exact rfl)
    | (apply Y_neq; exact rfl; exact rfl)
    | (apply Y_add; exact rfl; exact rfl)
    | (apply Y_pick_t; exact rfl; exact rfl)
    | (apply Y_pick_f; exact rfl; exact rfl)
    | (apply Y_extract; exact rfl; exact rfl)
    | (apply Y_assign_nil; exact rfl)
    | (apply Y_move_buf; exact rfl)
    | (apply Y_assign_buf; exact rfl)
    | (apply Y_len_buf; exact rfl; exact (by first | with_reducible exact et_toks | with_reducible exact et_strs | with_reducible exact et_u8s))
    | (apply Y_field_p; exact rfl; exact (by first | with_reducible exact fo_0 | with_reducible exact fo_1 | with_reducible exact fo_2 | with_reducible exact fo_3))
    | (apply Y_load_pa; exact rfl; exact (by first | with_reducible exact tc_str | with_reducible exact tc_int | with_reducible exact tc_kind | with_reducible exact tc_tok | with_reducible exact tc_u8s | with_reducible exact tc_toks | with_reducible exact tc_strs | with_reducible exact tc_bool | with_reducible exact tc_err | with_reducible exact tc_i64); exact rfl; exact rfl; exact rfl)
    | (apply Y_lit1; exact (by first | with_reducible exact ety_toks | with_reducible exact ety_strs | with_reducible exact ety_u8s); exact (by first | with_reducible exact es_toks | with_reducible exact es_strs | with_reducible exact es_u8s); exact (by first | with_reducible exact zs_tok | with_reducible exact zs_str | with_reducible exact zs_i64 | with_reducible exact zs_u8); exact rfl; exact rfl; (first | exact CoL_d rfl CoL_nil | exact CoL_b rfl rfl rfl CoL_nil | exact CoL_n rfl CoL_nil); exact rfl)
    | (apply w1; exact rfl; exact rfl)
    | (apply gD; exact rfl; exact rfl; (intro hb); rotate_left; (intro hb); rotate_right)
    | (refine w0' ?_)
    | (apply aStore; exact rfl; exact rfl; exact rfl; exact (by first | with_reducible exact tc_str | with_reducible exact tc_int | with_reducible exact tc_kind | with_reducible exact tc_tok | with_reducible exact tc_u8s | with_reducible exact tc_toks | with_reducible exact tc_strs | with_reducible exact tc_bool | with_reducible exact tc_err | with_reducible exact tc_i64); exact rfl; exact rfl; exact rfl; exact rfl)
    | (apply awp_condD; exact rfl; (intro hb); rotate_left; (intro hb); rotate_right)
    | (apply awp_condT; exact rfl)
    | (apply awp_condF; exact rfl)
    | refine awp_block ?_
    | refine awp_skip ?_
    | refine awp_ret ?_
    | refine awp_exit ?_
    | refine awp_goto ?_
    | refine en_r ?_
    | refine en_e ?_
    | refine eb_n ?_
    | refine eb_e ?_
    | refine en_g ?_
    | refine ej_r ?_
    | refine ej_g ?_
  all_goals try omega
  · exact ⟨a + 1, ⟨by omega, by omega, by rw [← hl]; exact (lx_blank (by omega) (.inl hb)).symm⟩, by omega, Fits_mk (Le_cons rfl (Le_cons rfl (Le_cons rfl Le_nil))) (Pre_cons rfl rfl Pre_nil) rfl rfl⟩
  · exact ⟨a + 1, ⟨by omega, by omega, by rw [← hl]; exact (lx_blank (by omega) (.inr hb)).symm⟩, by omega, Fits_mk (Le_cons rfl (Le_cons rfl (Le_cons rfl Le_nil))) (Pre_cons rfl rfl Pre_nil) rfl rfl⟩
  · obtain ⟨e, h⟩ := lx_note (acc := acc) (show a < s.length by omega) hb
    have hsp : spanF isBound (s.drop a) ≤ (s.drop a).length := hsp
    have hdl : (s.drop a).length = s.length - a := hdl
    exact ⟨(a + spanF isBound (s.drop a), acc), ⟨by dsimp only; omega, by dsimp only; omega, by rw [← hl, e]⟩, by dsimp only; omega, Fits_mk (Le_cons rfl (Le_cons rfl (Le_cons rfl Le_nil))) (Pre_cons rfl rfl Pre_nil) rfl rfl⟩
  · exact hl.symm.trans (lx_many (by omega) ‹_› ‹_› ‹_› ‹_› ‹_›)
  · have h := one_len (s := s.drop (Int.toNat (a : Int))) (lx_ne (a := a) (by omega)) ‹_›
    refine ⟨?_, ?_⟩ <;> omega
  · have h := one_len (s := s.drop (Int.toNat (a : Int))) (lx_ne (a := a) (by omega)) ‹_›
    have e := lx_tok (acc := acc) (show a < s.length by omega) ‹_› ‹_› ‹_› ‹_› ‹_›
    change 1 ≤ (oneF (s.drop a)).2.1 ∧ (oneF (s.drop a)).2.1 ≤ ((s.drop a).length : Int) at h
    have hdl : (s.drop a).length = s.length - a := hdl
    refine ⟨(a + (oneF (s.drop a)).2.1.toNat, acc ++ [at_ (oneF (s.drop a)).1 a]), ⟨by dsimp only; omega, by dsimp only; rw [List.length_append, List.length_singleton]; omega, by rw [← hl, e]⟩, by dsimp only; omega, Fits_mk (Le_cons rfl (Le_cons rfl (Le_d rfl ?_ Le_nil))) (Pre_cons rfl rfl Pre_nil) rfl rfl⟩
    refine i64_is ?_
    show ((a + (oneF (s.drop a)).2.1.toNat : Nat) : Int) = (a : Int) + (oneF (s.drop a)).2.1
    omega
  · exact hl.symm.trans (lx_err (by omega) ‹_› ‹_› ‹_› hb)
  · exact hl.symm.trans (lx_end (by omega))
end Go.Proofs.YtbgomheagkcmaaaDoor
/- The token statements: the walk of the document's Lex. -/
namespace Go.Proofs.YtbgomheagkcmaaaDoor
open Go.Sx Go.RowKit Go.Lib
attribute [local irreducible] hasBody Program.underlying Ylds astep alex alexE alexD awp PCall FCall RCall MCall QCall athen ablock ajump rpost fpost mpost rpostC

theorem rone_e {s : List UInt8} {a : Nat} (h : (roneF s a).2.2 ≠ 0) : (oneF (s.drop a)).2.2 ≠ 0 ∧ (oneF (s.drop a)).2.2 = (roneF s a).2.2 := by
  by_cases e : (oneF (s.drop a)).2.2 = 0
  · rw [roneF, if_pos e] at h; exact absurd rfl h
  · rw [roneF, if_neg e]; exact ⟨e, rfl⟩
theorem rone_z {s : List UInt8} {a : Nat} (h : ¬ (roneF s a).2.2 ≠ 0) : (oneF (s.drop a)).2.2 = 0 ∧ roneF s a = (at_ (oneF (s.drop a)).1 a, a + (oneF (s.drop a)).2.1, 0) := by
  by_cases e : (oneF (s.drop a)).2.2 = 0
  · rw [roneF, if_pos e]; exact ⟨e, rfl⟩
  · rw [roneF, if_neg e] at h; exact absurd e h
theorem note_step {s : List UInt8} {a i : Nat} (hi : a + i ≤ s.length) (h : ∀ j, j < i → isBound (s.getD (a + j) 0) = true) (h2 : a + i = s.length ∨ isBound (s.getD (a + i) 0) = false) : spanF isBound (s.drop a) = i :=
  spanF_is _ _ i (by rw [List.length_drop]; omega) (fun j hj => by rw [drop_getD]; exact h j hj) (h2.imp (fun h => by rw [List.length_drop]; omega) (fun h => by rw [drop_getD]; exact h))
theorem bound_no {c : UInt8} : isBound c = false ↔ (c.toNat : Int) = 10 := by
  rw [isBound, bne, u8_eq]; simp
theorem bound_yes {c : UInt8} : isBound c = true ↔ (c.toNat : Int) ≠ 10 := by
  rw [isBound, bne, u8_eq]; simp

set_option maxHeartbeats 4000000 in
theorem rLex_ok (s : List UInt8) (hs : s.length ≤ 1000000) : PCall Tryd.prog 12 [str s] (.tup [toks (lexF s).1, i64 (lexF s).2.1, i64 (lexF s).2.2]) := by
  refine pcall_ofC Tryd.func12 rfl Tryd.ntmps12 Tryd.results12 rfl ?_
  intro wb St0
  repeat' first
    | refine en_n ?_
    | refine awp_seq ?_
    | refine awp_region ?_
    | refine alex_nil ?_
    | refine w0 ?_
    | (apply aLit0 (hd := rfl) (hro := rfl); (with_reducible exact ety_toks); (with_reducible exact es_toks); (with_reducible exact zs_tok); exact rfl)
    | apply ay (hd := rfl)
    | (apply Y_assign_d; exact rfl)
    | (apply Y_assign_nil; exact rfl)
    | (apply Y_assign_buf; exact rfl)
    | refine awp_block ?_
  refine awp_loopF (α := Nat × List Tk) (LxI s) (LxS s) LxO (fun x => s.length - x.1) (0, []) ⟨Nat.zero_le _, Nat.zero_le _, rfl⟩
      (Fits_mk (Le_cons rfl (Le_cons rfl (Le_cons rfl Le_nil))) (Pre_cons rfl rfl Pre_nil) rfl rfl) ?_
  rintro ⟨a, acc⟩ ⟨ha, h2, hl⟩
  dsimp only [LxS, LxO] at ha h2 hl ⊢
  repeat' first
    | (refine rpostC_ret ?_)
    | (refine res_lex rfl rfl rfl rfl rfl ?_)
    | (refine res_lexn rfl rfl rfl ?_)
    | refine en_n ?_
    | refine awp_seq ?_
    | refine awp_region ?_
    | refine alex_nil ?_
    | refine w0 ?_
    | (apply k0u (hd := rfl); exact rfl; exact rfl)
    | (apply Y_len_l; exact rfl; with_reducible exact ustr)
    | (apply Y_idx_l; exact rfl; exact rfl; with_reducible exact ustr; (first | assumption | omega))
    | (apply aAppT (roneF s a).1 (hd := rfl) (hro := rfl); exact rfl; exact rfl; exact rfl; exact rfl; exact rfl; (with_reducible exact ety_toks); (with_reducible exact es_toks); (with_reducible exact zl_tok); (with_reducible exact by_toks); exact rfl; omega)
    | (refine Y_call hb_rone (rone_ok s a hs (by omega)) (CoL_d rfl (CoL_d rfl CoL_nil)))
    | (apply aAlloc (hd := rfl) (hro := rfl); exact (by first | with_reducible exact zo_tok | with_reducible exact zo_int | with_reducible exact zo_i64))
    | apply ay (hd := rfl)
    | (apply Y_move_d; exact rfl)
    | (apply Y_assign_d; exact rfl)
    | (apply Y_lss; exact rfl; exact rfl)
    | (apply Y_eql; exact rfl; exact rfl)
    | (apply Y_neq; exact rfl; exact rfl)
    | (apply Y_add; exact rfl; exact rfl)
    | (apply Y_pick_t; exact rfl; exact rfl)
    | (apply Y_pick_f; exact rfl; exact rfl)
    | (apply Y_extract; exact rfl; exact rfl)
    | (apply Y_assign_nil; exact rfl)
    | (apply Y_move_buf; exact rfl)
    | (apply Y_assign_buf; exact rfl)
    | (apply Y_len_buf; exact rfl; exact (by first | with_reducible exact et_toks | with_reducible exact et_strs | with_reducible exact et_u8s))
    | (apply Y_load_pa; exact rfl; exact (by first | with_reducible exact tc_str | with_reducible exact tc_int | with_reducible exact tc_kind | with_reducible exact tc_tok | with_reducible exact tc_u8s | with_reducible exact tc_toks | with_reducible exact tc_strs | with_reducible exact tc_bool | with_reducible exact tc_err | with_reducible exact tc_i64); exact rfl; exact rfl; exact rfl)
    | (apply Y_lit1; exact (by first | with_reducible exact ety_toks | with_reducible exact ety_strs | with_reducible exact ety_u8s); exact (by first | with_reducible exact es_toks | with_reducible exact es_strs | with_reducible exact es_u8s); exact (by first | with_reducible exact zs_tok | with_reducible exact zs_str | with_reducible exact zs_i64 | with_reducible exact zs_u8); exact rfl; exact rfl; (first | exact CoL_d rfl CoL_nil | exact CoL_b rfl rfl rfl CoL_nil | exact CoL_n rfl CoL_nil); exact rfl)
    | (apply w1; exact rfl; exact rfl)
    | (apply gD; exact rfl; exact rfl; (intro hb); rotate_left; (intro hb); rotate_right)
    | (refine w0' ?_)
    | (apply aStore; exact rfl; exact rfl; exact rfl; exact (by first | with_reducible exact tc_str | with_reducible exact tc_int | with_reducible exact tc_kind | with_reducible exact tc_tok | with_reducible exact tc_u8s | with_reducible exact tc_toks | with_reducible exact tc_strs | with_reducible exact tc_bool | with_reducible exact tc_err | with_reducible exact tc_i64); exact rfl; exact rfl; exact rfl; exact rfl)
    | (apply awp_condD; exact rfl; (intro hb); rotate_left; (intro hb); rotate_right)
    | (apply awp_condT; exact rfl)
    | refine awp_block ?_
    | refine awp_skip ?_
    | refine awp_ret ?_
    | refine awp_exit ?_
    | refine en_r ?_
    | refine en_e ?_
    | refine eb_n ?_
    | refine eb_r ?_
    | refine eb_e ?_
  all_goals try omega
  · exact ⟨(a + 1, acc), ⟨by dsimp only; omega, by dsimp only; omega, by rw [← hl]; exact (lx_blank (by omega) (.inl hb)).symm⟩, by dsimp only; omega, Fits_mk (Le_cons rfl (Le_cons rfl (Le_cons rfl Le_nil))) (Pre_cons rfl rfl Pre_nil) rfl rfl⟩
  · exact ⟨(a + 1, acc), ⟨by dsimp only; omega, by dsimp only; omega, by rw [← hl]; exact (lx_blank (by omega) (.inr hb)).symm⟩, by dsimp only; omega, Fits_mk (Le_cons rfl (Le_cons rfl (Le_cons rfl Le_nil))) (Pre_cons rfl rfl Pre_nil) rfl rfl⟩
  · rename_i h32 h10
    have h35 := hb
    refine awp_loopF (α := Nat) (fun i => a + i ≤ s.length ∧ ∀ j, j < i → isBound (s.getD (a + j) 0) = true) (fun i => [(0, .d (str s)), (5, .buf 0 acc.length), (6, .d (i64 ((a + i : Nat) : Int)))]) (fun _ => [.buf false 37 4 (acc.map Tk.av)]) (fun i => s.length - (a + i)) 0 ⟨ha, by omega⟩
      (Fits_mk (Le_cons rfl (Le_cons rfl (Le_cons rfl Le_nil))) (Pre_cons rfl rfl Pre_nil) rfl rfl) ?_
    rintro i ⟨hi1, hi2⟩
    clear hb
    repeat' first
      | refine en_n ?_
      | refine awp_seq ?_
      | refine awp_region ?_
      | refine alex_nil ?_
      | refine w0 ?_
      | (apply k1u (hd := rfl); exact rfl; exact rfl)
      | (apply Y_len_l; exact rfl; with_reducible exact ustr)
      | (apply Y_idx_l; exact rfl; exact rfl; with_reducible exact ustr; (first | assumption | omega))
      | apply ay (hd := rfl)
      | (apply Y_move_d; exact rfl)
      | (apply Y_assign_d; exact rfl)
      | (apply Y_lss; exact rfl; exact rfl)
      | (apply Y_neq; exact rfl; exact rfl)
      | (apply Y_add; exact rfl; exact rfl)
      | (apply Y_pick_t; exact rfl; exact rfl)
      | (apply Y_pick_f; exact rfl; exact rfl)
      | (apply w1; exact rfl; exact rfl)
      | (apply gD; exact rfl; exact rfl; (intro hb); rotate_left; (intro hb); rotate_right)
      | (apply awp_condD; exact rfl; (intro hb); rotate_left; (intro hb); rotate_right)
      | (apply awp_condF; exact rfl)
      | refine awp_block ?_
      | refine awp_skip ?_
      | refine awp_exit ?_
      | refine en_e ?_
      | refine eb_n ?_
      | refine eb_e ?_
    · omega
    · refine ⟨i + 1, ⟨by omega, fun j hj => ?_⟩, by omega, Fits_mk (Le_cons rfl (Le_cons rfl (Le_cons rfl Le_nil))) (Pre_cons rfl rfl Pre_nil) rfl rfl⟩
      rcases Nat.lt_or_ge j i with h | h
      · exact hi2 j h
      · rw [show j = i by omega]; exact bound_yes.2 hb
    · obtain ⟨e, h⟩ := lx_note (acc := acc) (show a < s.length by omega) h35
      rw [note_step hi1 hi2 (.inr (bound_no.2 (Decidable.not_not.1 hb)))] at e h
      exact ⟨(a + i, acc), ⟨hi1, by dsimp only; omega, by rw [← hl, e]⟩, by dsimp only; omega, Fits_mk (Le_cons rfl (Le_cons rfl (Le_cons rfl Le_nil))) (Pre_cons rfl rfl Pre_nil) rfl rfl⟩
    · obtain ⟨e, h⟩ := lx_note (acc := acc) (show a < s.length by omega) h35
      rw [note_step hi1 hi2 (.inl (by omega))] at e h
      exact ⟨(a + i, acc), ⟨hi1, by dsimp only; omega, by rw [← hl, e]⟩, by dsimp only; omega, Fits_mk (Le_cons rfl (Le_cons rfl (Le_cons rfl Le_nil))) (Pre_cons rfl rfl Pre_nil) rfl rfl⟩
  · obtain ⟨e1, e2⟩ := rone_e hb
    exact hl.symm.trans ((lx_err (by omega) ‹_› ‹_› ‹_› e1).trans (by rw [e2]))
  · exact hl.symm.trans (lx_many (by omega) ‹_› ‹_› ‹_› (rone_z ‹_›).1 hb)
  · obtain ⟨e1, e2⟩ := rone_z ‹¬ (roneF s a).2.2 ≠ 0›
    have h := one_len (s := s.drop a) (lx_ne (a := a) (by omega)) e1
    have e := lx_tok (acc := acc) (show a < s.length by omega) ‹_› ‹_› ‹_› e1 hb
    have hdl : (s.drop a).length = s.length - a := List.length_drop
    have e3 : (roneF s a).1 = at_ (oneF (s.drop a)).1 a := by rw [e2]
    have e4 : (roneF s a).2.1 = a + (oneF (s.drop a)).2.1 := by rw [e2]
    refine ⟨(a + (oneF (s.drop a)).2.1.toNat, acc ++ [(roneF s a).1]), ⟨by dsimp only; omega, by dsimp only; rw [List.length_append, List.length_singleton]; omega, by rw [← hl, e, e3]⟩, by dsimp only; omega, Fits_mk (Le_cons rfl (Le_cons rfl (Le_d rfl ?_ Le_nil))) (Pre_cons rfl rfl Pre_nil) rfl rfl⟩
    refine i64_is ?_
    show ((a + (oneF (s.drop a)).2.1.toNat : Nat) : Int) = (roneF s a).2.1
    omega
  · exact hl.symm.trans (lx_end (by omega))
end Go.Proofs.YtbgomheagkcmaaaDoor
