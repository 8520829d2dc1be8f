/- Texts of this claim, merged: NodF, NodA, Shelf, WrdF, LexP, LexF. -/
import Derived.Test.YtblomnkamngnbaaGreatDoorProg
import Derived.Shelf.Small.Bits
import Derived.Shelf.Small.Strs
import Derived.Shelf.Strconv.Itoa0
import Derived.Shelf.Strconv.Itoa1
import Derived.Shelf.LaysM
import Derived.Shelf.Strconv.Itoa2
import Derived.Shelf.Strconv.Itoa3
import Derived.Shelf.Strconv.Itoa4
import Derived.Shelf.Strings.Search1
import Derived.Shelf.Sort.Plain
import Derived.Shelf.Strings.Fields
import Derived.Shelf.Strings.SplitShaped
import Derived.Shelf.Unicode.Latin
import Derived.Shelf.Unicode.Is16White
import Derived.Shelf.Unicode.IsSpaceAny
import Derived.Shelf.Unicode.Is16Any
import Derived.Shelf.Unicode.Is32Any
import Derived.Shelf.Unicode.ExclAny
import Derived.Shelf.Slices.CompactS
import Derived.Shelf.Slices.Cells
import Derived.Lib.ItoaLen
import Derived.Test.YtblomnkamngnbaaGreatDoorMAB
namespace Go.Proofs.YtblomnkamngnbaaGreatDoor
open Go.Sx
theorem zAa : zA9 Tryz.prog 23 = some 4:=by kernel_rfl
theorem zBD : zA9 Tryz.prog 52 = some 1:=by kernel_rfl
theorem zCf : zA9 Tryz.prog 47 = some 1:=by kernel_rfl
theorem zA7 : (zB8 Tryz.prog 23).isSome = true:=by kernel_rfl
theorem zCU : (zB8 Tryz.prog 52).isSome = true:=by kernel_rfl
theorem zG3 : (zB8 Tryz.prog 47).isSome = true:=by kernel_rfl
theorem zBl : zB8 Tryz.prog 23 = some 40:=by kernel_rfl
theorem zDh : zB8 Tryz.prog 52 = some 3:=by kernel_rfl
theorem zEE : zB8 Tryz.prog 47 = some 23:=by kernel_rfl
theorem fn_0 : zBH Tryz.prog 40 0 = some 0:=by kernel_rfl
theorem fn_1 : zBH Tryz.prog 40 1 = some 1:=by kernel_rfl
theorem fn_2 : zBH Tryz.prog 40 2 = some 2:=by kernel_rfl
theorem fn_3 : zBH Tryz.prog 40 3 = some 3:=by kernel_rfl
theorem zAz : zBF Tryz.prog 3 = some (false,1):=by kernel_rfl
theorem zAk : zBF Tryz.prog 38 = some (false,1):=by kernel_rfl
theorem zB4 : zBF Tryz.prog 2 = some (false,1):=by kernel_rfl
theorem zA4 : zBF Tryz.prog 9 = some (false,1):=by kernel_rfl
theorem zGb : zBF Tryz.prog 4 = some (false,1):=by kernel_rfl
theorem zAg : zBF Tryz.prog 23 = some (false,1):=by kernel_rfl
theorem zJw : zBF Tryz.prog 52 = some (false,1):=by kernel_rfl
theorem zAb : zBF Tryz.prog 40 = some (true,4):=by kernel_rfl
theorem zE1 : zDP Tryz.prog 40 = some 4:=by kernel_rfl
theorem zKv : zDP Tryz.prog 3 = some 1:=by kernel_rfl
theorem zRz : zDP Tryz.prog 23 = some 1:=by kernel_rfl
theorem zDi : zDK Tryz.prog 23 = some 40:=by kernel_rfl
theorem zI0 : zDK Tryz.prog 52 = some 8:=by kernel_rfl
theorem zRG : zDK Tryz.prog 47 = some 24:=by kernel_rfl
theorem zDr : (zBk Tryz.prog 40).isSome = true:=by kernel_rfl
theorem zNE : (zBk Tryz.prog 3).isSome = true:=by kernel_rfl
theorem zGX : (zBk Tryz.prog 23).isSome = true:=by kernel_rfl
theorem zAp : zBk Tryz.prog 40 = some [.int .i64 0,.string ByteArray.empty,.int .i64 0,.int .i64 0]:=by kernel_rfl
theorem zT5 : zBk Tryz.prog 3 = some [.int .i64 0]:=by kernel_rfl
theorem zT6 : zR0 Tryz.prog 40 = some (.agg [.val (.int .i64 0),.val (.string ByteArray.empty),.val (.int .i64 0),.val (.int .i64 0)]):=by kernel_rfl
theorem zGH : zAO Tryz.prog 92 = true:=by kernel_rfl
theorem zF8 : zAO Tryz.prog 49 = true:=by kernel_rfl
theorem zCj : zAO Tryz.prog 54 = true:=by kernel_rfl
theorem zVd : zAO Tryz.prog 99 = true:=by kernel_rfl
theorem zKU : zAO Tryz.prog 16 = true:=by kernel_rfl
theorem zFf : zAO Tryz.prog 118 = true:=by kernel_rfl
theorem zGy : zAO Tryz.prog 72 = true:=by kernel_rfl
theorem zQh : zAO Tryz.prog 17 = true:=by kernel_rfl
theorem zEj : Tryz.prog.underlying 3 = some (.int .i64):=by kernel_rfl
structure Nd where
  kind : Int
  text : List UInt8
  num : Int
  kids : Int
deriving DecidableEq
def Nd.av (n : Nd) : D:=.agg [.val (.int .i64 n.kind),.val (.string ⟨n.text.toArray⟩),.val (.int .i64 n.num),.val (.int .i64 n.kids)]
def zAc (L : List Nd) : D:=.slice (L.map Nd.av)
def ival (n : Int) : D:=.val (.int .i64 n)
def zBv (L : List Int) : D:=.slice (L.map ival)
def zGl (LL : List (List Nd)) : D:=.slice (LL.map zAc)
def zDn (n : Nat) : List Nd → Int → Int → Int
  | [],_,_=>-1
  | x :: r,o,a=>if x.kids < 0 ∨ x.kids > n then -1 else if o + (x.kids - 1) > 0 then zDn n r (o + (x.kids - 1)) (a + 1) else a + 1
def endF (L : List Nd) (a : Int) : Int:=if a < 0 then -1 else zDn L.length (L.drop a.toNat) 1 a
theorem zEw {L : List Nd} {k : Nat} (h : L.length ≤ k) (n : Nat) (o a : Int) : zDn n (L.drop k) o a = -1:=by
  rw [List.drop_of_length_le h];rfl
theorem zDc {L : List Nd} {k : Nat} {x : Nd} (h : L[k]? = some x) (n : Nat) (o a : Int) : zDn n (L.drop k) o a = if x.kids < 0 ∨ x.kids > n then -1 else if o + (x.kids - 1) > 0 then zDn n (L.drop (k + 1)) (o + (x.kids - 1)) (a + 1) else a + 1:=by
  obtain ⟨hk,rfl⟩:=List.getElem?_eq_some_iff.1 h
  rw [List.drop_eq_getElem_cons hk];rfl
end Go.Proofs.YtblomnkamngnbaaGreatDoor
namespace Go.Proofs.YtblomnkamngnbaaGreatDoor
open Go.Sx
attribute [local irreducible] Ylds zA3 alex zBY zBN awp zAm zBT zBe zAx zBA zBP zA2 zBR zBX zBa
theorem zGL (L : List Nd) (at_ : Int) (hL : L.length ≤ 2000000) : zAm Tryz.prog 92 [zAc L,i64 at_] (i64 (endF L at_)):=by
  refine zAd Tryz.func92 rfl Tryz.ntmps92 Tryz.results92 rfl ?_
  intro wb St0
  repeat' first | apply en_n|apply zAH|apply zAC|apply zAF|apply w0|apply ay (hd:=rfl)|exact zAD rfl
  refine zM4 (α:=Int × Nat) 0 rfl rfl (fun p=>zDn L.length (L.drop p.2) p.1 p.2 = endF L at_ ∧ 1 ≤ p.1 ∧ p.1 ≤ 1 + p.2 * 2000000) (fun p=>[(0,.d (zAc L)),(1,.d (i64 p.2)),(5,.d (i64 p.1))]) (fun _=>[]) (fun p=>L.length - p.2) ?_ ?_
  · skip
    repeat' first | apply en_n|apply zAH|apply zAC|apply zAF|apply w0|apply ay (hd:=rfl)|exact zAE rfl|exact zAD rfl|exact zDG rfl rfl|(apply zA1;exact rfl;(intro hb);rotate_left;(intro hb);rotate_right)|apply zAT|apply zAN|apply en_r|apply ej_r|apply zAP|(apply res1;exact rfl)
    · rw [endF,if_pos hb]
    · refine ⟨(1,at_.toNat),⟨?_,by omega,by simp only;omega⟩,zAL (zAA rfl (Le_d rfl ?_ (zAA rfl zAW))) zAK rfl rfl⟩
      · rw [endF,if_neg hb];simp only;rw [Int.toNat_of_nonneg (by omega)]
      · simp only;rw [Int.toNat_of_nonneg (by omega)]
  · rintro ⟨o,k⟩ ⟨h1,h2,h3⟩
    dsimp only at h1 h2 h3 ⊢
    repeat' first | apply en_n|apply zAH|apply zAC|apply zAF|apply w0|(apply aJ (hd:=rfl);(first|exact zAn rfl|exact Co_bb rfl rfl rfl|exact Co_nn rfl);exact rfl;(with_reducible exact zAa);assumption;omega;exact fun _=>rfl)|(apply aI (hd:=rfl);(first|exact zAn rfl|exact Co_bb rfl rfl rfl|exact Co_nn rfl);exact rfl;(with_reducible exact zAa);exact fun _=>rfl;rotate_left;intro v hv;rotate_right)|apply ay (hd:=rfl)|exact zAE rfl|exact zAD rfl|(apply zA5;exact rfl;(with_reducible exact fn_3))|(apply zAi;exact rfl;(with_reducible exact zAz))|(apply zAr;exact rfl;(with_reducible exact zA7))|exact zDG rfl rfl|exact zHp rfl rfl|exact zFp rfl rfl|(apply zBG;exact rfl;exact rfl)|(apply zJC;exact rfl;exact rfl)|exact zAq rfl rfl|exact zAo rfl rfl|(apply w1;exact rfl;exact rfl)|(apply k0 (hd:=rfl);exact rfl;exact rfl)|(apply gD;exact rfl;exact rfl;(intro hb);rotate_left;(intro hb);rotate_right)|(apply zA1;exact rfl;(intro hb);rotate_left;(intro hb);rotate_right)|(apply zAQ;exact rfl)|apply zAT|apply zAN|apply zS8|apply en_r|apply en_g|apply ej_r|apply ej_g|apply zAP|(apply res1;exact rfl)
    all_goals try omega
    · rw [← h1,zEw (by omega)]
    · rw [← h1,zDc (k:=k) hv,if_pos (by omega)]
    · rw [← h1,zDc (k:=k) hv,if_pos (by omega)]
    · rw [zDc (k:=k) hv,if_neg (by omega),if_pos (by omega)] at h1
      refine ⟨(o + (v.kids - 1),k + 1),⟨h1,by simp only;omega,by simp only;omega⟩,?_,zAL (zAA rfl (zAA rfl (zAA rfl zAW))) zAK rfl rfl⟩
      simp only;omega
    · rw [← h1,zDc (k:=k) hv,if_neg (by omega),if_neg (by omega)]
end Go.Proofs.YtblomnkamngnbaaGreatDoor
namespace Go.Proofs
open Go.Shelf
def Tryz.lays137_ren : Go.Shelf.Ren:=⟨fun | 137=>125 | 217=>142 | 266=>165 | n=>n,fun | 9=>9 | 5=>5 | 3=>3 | n=>n,fun | n=>n⟩
theorem Tryz.lays137 : Go.Proofs.Lays.n137 Tryz.prog Tryz.lays137_ren:={
  mixed:=by kernel_rfl
  f137:=Tryz.func125.trans (congrArg some (by kernel_rfl))
  f217:=Tryz.func142.trans (congrArg some (by kernel_rfl))
  f266:=Tryz.func165.trans (congrArg some (by kernel_rfl))
  t3:=Tryz.underlying3
  a3:=Tryz.isAgg3
  z3:=Tryz.sizeOf3
  v3:=Tryz.zeroValue3
  t5:=Tryz.underlying5
  a5:=Tryz.isAgg5
  z5:=Tryz.sizeOf5
  v5:=Tryz.zeroValue5
  t9:=Tryz.underlying9
  a9:=Tryz.isAgg9
  z9:=Tryz.sizeOf9
  v9:=Tryz.zeroValue9 }
open Go.RowKit in
theorem Tryz.strings_IndexByte (s : ByteArray) (c : Int) (w : World) :
    Calls Tryz.prog 125 #[.string s,.int .u8 c] w fun e w'=>e = .returned (.int .i64 (Lib.indexByte s.data.toList c.toNat.toUInt8)) ∧ w' = w:=Any.strings_IndexByte Tryz.lays137 s c w
def Tryz.laysM173_ren : Go.Shelf.Ren:=⟨fun | 173=>73 | 246=>119 | 283=>136 | 284=>137 | 285=>138 | 286=>139 | 129=>156 | 317=>159 | 318=>160 | 319=>161 | 320=>162 | 337=>174 | 338=>175 | n=>n,fun | 2=>2 | 3=>3 | 9=>9 | 4=>4 | 171=>152 | 0=>0 | 53=>134 | 37=>155 | 5=>5 | 173=>156 | 212=>174 | 51=>171 | 20=>20 | 213=>175 | 46=>136 | 232=>193 | 233=>194 | n=>n,fun | 17=>0 | 18=>4 | 19=>5 | n=>n⟩
theorem Tryz.laysM173 : Go.Proofs.LaysM.n173 Tryz.prog Tryz.laysM173_ren:={
  mixed:=by kernel_rfl
  f129:=Tryz.func156.trans (congrArg some (by kernel_rfl))
  f173:=Tryz.func73.trans (congrArg some (by kernel_rfl))
  f246:=Tryz.func119.trans (congrArg some (by kernel_rfl))
  f283:=Tryz.func136.trans (congrArg some (by kernel_rfl))
  f284:=Tryz.func137.trans (congrArg some (by kernel_rfl))
  f285:=Tryz.func138.trans (congrArg some (by kernel_rfl))
  f286:=Tryz.func139.trans (congrArg some (by kernel_rfl))
  f317:=Tryz.func159.trans (congrArg some (by kernel_rfl))
  f318:=Tryz.func160.trans (congrArg some (by kernel_rfl))
  f319:=Tryz.func161.trans (congrArg some (by kernel_rfl))
  f320:=Tryz.func162.trans (congrArg some (by kernel_rfl))
  f337:=Tryz.func174.trans (congrArg some (by kernel_rfl))
  f338:=Tryz.func175.trans (congrArg some (by kernel_rfl))
  t0:=Tryz.underlying0
  a0:=Tryz.isAgg0
  z0:=Tryz.sizeOf0
  v0:=Tryz.zeroValue0
  t2:=Tryz.underlying2
  a2:=Tryz.isAgg2
  z2:=Tryz.sizeOf2
  v2:=Tryz.zeroValue2
  t3:=Tryz.underlying3
  a3:=Tryz.isAgg3
  z3:=Tryz.sizeOf3
  v3:=Tryz.zeroValue3
  t4:=Tryz.underlying4
  a4:=Tryz.isAgg4
  z4:=Tryz.sizeOf4
  v4:=Tryz.zeroValue4
  t5:=Tryz.underlying5
  a5:=Tryz.isAgg5
  z5:=Tryz.sizeOf5
  v5:=Tryz.zeroValue5
  t9:=Tryz.underlying9
  a9:=Tryz.isAgg9
  z9:=Tryz.sizeOf9
  v9:=Tryz.zeroValue9
  t20:=Tryz.underlying20
  a20:=Tryz.isAgg20
  z20:=Tryz.sizeOf20
  v20:=Tryz.zeroValue20
  t37:=Tryz.underlying155
  a37:=Tryz.isAgg155
  z37:=Tryz.sizeOf155
  v37:=Tryz.zeroValue155
  t46:=Tryz.underlying136
  a46:=Tryz.isAgg136
  z46:=Tryz.sizeOf136
  v46:=Tryz.zeroValue136
  t51:=Tryz.underlying171
  a51:=Tryz.isAgg171
  z51:=Tryz.sizeOf171
  v51:=Tryz.zeroValue171
  t53:=Tryz.underlying134
  a53:=Tryz.isAgg134
  z53:=Tryz.sizeOf134
  v53:=Tryz.zeroValue134
  t171:=Tryz.underlying152
  a171:=Tryz.isAgg152
  z171:=Tryz.sizeOf152
  v171:=Tryz.zeroValue152
  t173:=Tryz.underlying156
  a173:=Tryz.isAgg156
  z173:=Tryz.sizeOf156
  v173:=Tryz.zeroValue156
  t212:=Tryz.underlying174
  a212:=Tryz.isAgg174
  z212:=Tryz.sizeOf174
  v212:=Tryz.zeroValue174
  t213:=Tryz.underlying175
  a213:=Tryz.isAgg175
  z213:=Tryz.sizeOf175
  t232:=Tryz.underlying193
  a232:=Tryz.isAgg193
  z232:=Tryz.sizeOf193
  v232:=Tryz.zeroValue193
  t233:=Tryz.underlying194
  a233:=Tryz.isAgg194
  z233:=Tryz.sizeOf194
  v233:=Tryz.zeroValue194
  g17:=by kernel_rfl
  g18:=by kernel_rfl
  g19:=by kernel_rfl
  i0:=by kernel_rfl
  i2:=by kernel_rfl
  i3:=by kernel_rfl
  i4:=by kernel_rfl
  i5:=by kernel_rfl
  i9:=by kernel_rfl
  i20:=by kernel_rfl
  i37:=by kernel_rfl
  i46:=by kernel_rfl
  i51:=by kernel_rfl
  i53:=by kernel_rfl
  i171:=by kernel_rfl
  i173:=by kernel_rfl
  i212:=by kernel_rfl
  i232:=by kernel_rfl
  i233:=by kernel_rfl
  m17:=by kernel_rfl
  m18:=by kernel_rfl
  m19:=by kernel_rfl }
open Go.RowKit Go.Sort Go.Lib in
theorem Tryz.strconv_FormatInt_10 (n : Int) (h0 : -9223372036854775808 ≤ n) (h1 : n ≤ 9223372036854775807) (w : World) (htab : Lib.TabIs Tryz.prog w "internal/strconv.uint64pow10" .u64 Lib.pow10Tab) :
    Calls Tryz.prog 73 #[.int .i64 n,.int .i64 10] w fun e w'=>e = .returned (.string ⟨(Lib.itoa n).toArray⟩) ∧ ∃ k os,w' = grow (w.drewN k) os:=Any.strconv_FormatInt_10 Tryz.laysM173 n h0 h1 w htab
def Tryz.lays190_ren : Go.Shelf.Ren:=⟨fun | 190=>101 | 125=>128 | 258=>127 | 128=>155 | 129=>156 | 302=>146 | 303=>147 | 304=>148 | 305=>149 | 306=>150 | 307=>151 | 308=>152 | 309=>153 | 310=>154 | 333=>167 | 329=>168 | 330=>169 | 334=>170 | 335=>171 | 336=>172 | 344=>177 | n=>n,fun | 31=>71 | 9=>9 | 3=>3 | 46=>136 | 0=>0 | 51=>171 | 53=>134 | 4=>4 | 183=>163 | 182=>162 | 131=>168 | 5=>5 | 218=>179 | 222=>183 | 228=>190 | 229=>191 | n=>n,fun | n=>n⟩
theorem Tryz.lays190 : Go.Proofs.Lays.n190 Tryz.prog Tryz.lays190_ren:={
  mixed:=by kernel_rfl
  f125:=Tryz.func128.trans (congrArg some (by kernel_rfl))
  f128:=Tryz.func155.trans (congrArg some (by kernel_rfl))
  f129:=Tryz.func156.trans (congrArg some (by kernel_rfl))
  f190:=Tryz.func101.trans (congrArg some (by kernel_rfl))
  f258:=Tryz.func127.trans (congrArg some (by kernel_rfl))
  f302:=Tryz.func146.trans (congrArg some (by kernel_rfl))
  f303:=Tryz.func147.trans (congrArg some (by kernel_rfl))
  f304:=Tryz.func148.trans (congrArg some (by kernel_rfl))
  f305:=Tryz.func149.trans (congrArg some (by kernel_rfl))
  f306:=Tryz.func150.trans (congrArg some (by kernel_rfl))
  f307:=Tryz.func151.trans (congrArg some (by kernel_rfl))
  f308:=Tryz.func152.trans (congrArg some (by kernel_rfl))
  f309:=Tryz.func153.trans (congrArg some (by kernel_rfl))
  f310:=Tryz.func154.trans (congrArg some (by kernel_rfl))
  f329:=Tryz.func168.trans (congrArg some (by kernel_rfl))
  f330:=Tryz.func169.trans (congrArg some (by kernel_rfl))
  f333:=Tryz.func167.trans (congrArg some (by kernel_rfl))
  f334:=Tryz.func170.trans (congrArg some (by kernel_rfl))
  f335:=Tryz.func171.trans (congrArg some (by kernel_rfl))
  f336:=Tryz.func172.trans (congrArg some (by kernel_rfl))
  f344:=Tryz.func177.trans (congrArg some (by kernel_rfl))
  t0:=Tryz.underlying0
  a0:=Tryz.isAgg0
  z0:=Tryz.sizeOf0
  v0:=Tryz.zeroValue0
  t3:=Tryz.underlying3
  a3:=Tryz.isAgg3
  z3:=Tryz.sizeOf3
  v3:=Tryz.zeroValue3
  t4:=Tryz.underlying4
  a4:=Tryz.isAgg4
  z4:=Tryz.sizeOf4
  v4:=Tryz.zeroValue4
  t5:=Tryz.underlying5
  a5:=Tryz.isAgg5
  z5:=Tryz.sizeOf5
  v5:=Tryz.zeroValue5
  t9:=Tryz.underlying9
  a9:=Tryz.isAgg9
  z9:=Tryz.sizeOf9
  v9:=Tryz.zeroValue9
  t31:=Tryz.underlying71
  a31:=Tryz.isAgg71
  z31:=Tryz.sizeOf71
  v31:=Tryz.zeroValue71
  t46:=Tryz.underlying136
  a46:=Tryz.isAgg136
  z46:=Tryz.sizeOf136
  v46:=Tryz.zeroValue136
  t51:=Tryz.underlying171
  a51:=Tryz.isAgg171
  z51:=Tryz.sizeOf171
  v51:=Tryz.zeroValue171
  t53:=Tryz.underlying134
  a53:=Tryz.isAgg134
  z53:=Tryz.sizeOf134
  v53:=Tryz.zeroValue134
  t131:=Tryz.underlying168
  a131:=Tryz.isAgg168
  z131:=Tryz.sizeOf168
  v131:=Tryz.zeroValue168
  t182:=Tryz.underlying162
  a182:=Tryz.isAgg162
  z182:=Tryz.sizeOf162
  v182:=Tryz.zeroValue162
  t183:=Tryz.underlying163
  a183:=Tryz.isAgg163
  z183:=Tryz.sizeOf163
  v183:=Tryz.zeroValue163
  t218:=Tryz.underlying179
  a218:=Tryz.isAgg179
  z218:=Tryz.sizeOf179
  v218:=Tryz.zeroValue179
  t222:=Tryz.underlying183
  a222:=Tryz.isAgg183
  z222:=Tryz.sizeOf183
  v222:=Tryz.zeroValue183
  t228:=Tryz.underlying190
  a228:=Tryz.isAgg190
  z228:=Tryz.sizeOf190
  v228:=Tryz.zeroValue190
  t229:=Tryz.underlying191
  a229:=Tryz.isAgg191
  z229:=Tryz.sizeOf191
  v229:=Tryz.zeroValue191 }
open Go.Sort Go.RowKit in
theorem Tryz.slices_Sort_string (blk off cap : Nat) (ss : List (List UInt8)) (w : World) (hH : Holds encStr w blk off ss.toArray) (hblk : blk < w.heap.size) (hsz : ss.length < 4611686018427387904) :
    Calls Tryz.prog 101 #[.slice (some ⟨blk,off,none⟩) ss.length cap] w fun e w' =>
      e = .returned (.tuple #[]) ∧ ∃ n os,w' = grow (putRow encStr (Sort.ahead w n) blk off (ss.mergeSort fun x y=>decide (x ≤ y)).toArray) os:=Any.slices_Sort_string Tryz.lays190 blk off cap ss w hH hblk hsz
def Tryz.laysM157_ren : Go.Shelf.Ren:=⟨fun | 157=>141 | 229=>163 | 199=>164 | 261=>176 | 311=>178 | 312=>179 | n=>n,fun | 9=>9 | 31=>71 | 3=>3 | 5=>5 | 4=>4 | 119=>176 | 0=>0 | 40=>178 | 152=>185 | 21=>21 | 154=>187 | 51=>171 | 141=>189 | 196=>198 | 193=>195 | 198=>201 | 49=>199 | 194=>196 | 201=>204 | 226=>206 | 46=>136 | 227=>207 | n=>n,fun | 0=>1 | 6=>2 | n=>n⟩
theorem Tryz.laysM157 : Go.Proofs.LaysM.n157 Tryz.prog Tryz.laysM157_ren:={
  mixed:=by kernel_rfl
  f157:=Tryz.func141.trans (congrArg some (by kernel_rfl))
  f199:=Tryz.func164.trans (congrArg some (by kernel_rfl))
  f229:=Tryz.func163.trans (congrArg some (by kernel_rfl))
  f261:=Tryz.func176.trans (congrArg some (by kernel_rfl))
  f311:=Tryz.func178.trans (congrArg some (by kernel_rfl))
  f312:=Tryz.func179.trans (congrArg some (by kernel_rfl))
  t0:=Tryz.underlying0
  a0:=Tryz.isAgg0
  z0:=Tryz.sizeOf0
  v0:=Tryz.zeroValue0
  t3:=Tryz.underlying3
  a3:=Tryz.isAgg3
  z3:=Tryz.sizeOf3
  v3:=Tryz.zeroValue3
  t4:=Tryz.underlying4
  a4:=Tryz.isAgg4
  z4:=Tryz.sizeOf4
  v4:=Tryz.zeroValue4
  t5:=Tryz.underlying5
  a5:=Tryz.isAgg5
  z5:=Tryz.sizeOf5
  v5:=Tryz.zeroValue5
  t9:=Tryz.underlying9
  a9:=Tryz.isAgg9
  z9:=Tryz.sizeOf9
  v9:=Tryz.zeroValue9
  t21:=Tryz.underlying21
  a21:=Tryz.isAgg21
  z21:=Tryz.sizeOf21
  v21:=Tryz.zeroValue21
  t31:=Tryz.underlying71
  a31:=Tryz.isAgg71
  z31:=Tryz.sizeOf71
  v31:=Tryz.zeroValue71
  t40:=Tryz.underlying178
  a40:=Tryz.isAgg178
  z40:=Tryz.sizeOf178
  v40:=Tryz.zeroValue178
  t46:=Tryz.underlying136
  a46:=Tryz.isAgg136
  z46:=Tryz.sizeOf136
  v46:=Tryz.zeroValue136
  t49:=Tryz.underlying199
  a49:=Tryz.isAgg199
  z49:=Tryz.sizeOf199
  v49:=Tryz.zeroValue199
  t51:=Tryz.underlying171
  a51:=Tryz.isAgg171
  z51:=Tryz.sizeOf171
  v51:=Tryz.zeroValue171
  t119:=Tryz.underlying176
  a119:=Tryz.isAgg176
  z119:=Tryz.sizeOf176
  t141:=Tryz.underlying189
  a141:=Tryz.isAgg189
  z141:=Tryz.sizeOf189
  v141:=Tryz.zeroValue189
  t152:=Tryz.underlying185
  a152:=Tryz.isAgg185
  z152:=Tryz.sizeOf185
  v152:=Tryz.zeroValue185
  t154:=Tryz.underlying187
  a154:=Tryz.isAgg187
  z154:=Tryz.sizeOf187
  v154:=Tryz.zeroValue187
  t193:=Tryz.underlying195
  a193:=Tryz.isAgg195
  z193:=Tryz.sizeOf195
  v193:=Tryz.zeroValue195
  t194:=Tryz.underlying196
  a194:=Tryz.isAgg196
  z194:=Tryz.sizeOf196
  v194:=Tryz.zeroValue196
  t196:=Tryz.underlying198
  a196:=Tryz.isAgg198
  z196:=Tryz.sizeOf198
  v196:=Tryz.zeroValue198
  t198:=Tryz.underlying201
  a198:=Tryz.isAgg201
  z198:=Tryz.sizeOf201
  v198:=Tryz.zeroValue201
  t201:=Tryz.underlying204
  a201:=Tryz.isAgg204
  z201:=Tryz.sizeOf204
  v201:=Tryz.zeroValue204
  t226:=Tryz.underlying206
  a226:=Tryz.isAgg206
  z226:=Tryz.sizeOf206
  v226:=Tryz.zeroValue206
  t227:=Tryz.underlying207
  a227:=Tryz.isAgg207
  z227:=Tryz.sizeOf207
  v227:=Tryz.zeroValue207
  g0:=by kernel_rfl
  g6:=by kernel_rfl
  i0:=by kernel_rfl
  i3:=by kernel_rfl
  i4:=by kernel_rfl
  i5:=by kernel_rfl
  i9:=by kernel_rfl
  i21:=by kernel_rfl
  i31:=by kernel_rfl
  i40:=by kernel_rfl
  i46:=by kernel_rfl
  i49:=by kernel_rfl
  i51:=by kernel_rfl
  i141:=by kernel_rfl
  i152:=by kernel_rfl
  i154:=by kernel_rfl
  i193:=by kernel_rfl
  i194:=by kernel_rfl
  i196:=by kernel_rfl
  i198:=by kernel_rfl
  i201:=by kernel_rfl
  i226:=by kernel_rfl
  i227:=by kernel_rfl
  m0:=by kernel_rfl
  m6:=by kernel_rfl }
open Go.RowKit Go.Lib in
theorem Tryz.strings_Fields_laid (s : ByteArray) (w : World) (hs : s.size < 4294967281) (hascii : ∀ (j : Nat) b,s.data.toList[j]? = some b → b.toNat < 128) (htab : Lib.TabIs Tryz.prog w "strings.asciiSpace" .u8 Lib.asciiSpaceTab) :
    Calls Tryz.prog 141 #[.string s] w fun e w' =>
      e = .returned (.slice (some ⟨w.heap.size,0,none⟩) (Lib.fields s.data.toList).length (Lib.fields s.data.toList).length) ∧ w' = w.alloc (.cells ((Lib.fields s.data.toList).map fun l=>Value.string ⟨l.toArray⟩).toArray 9):=Any.strings_Fields_laid Tryz.laysM157 s w hs hascii htab
def Tryz.lays194_ren : Go.Shelf.Ren:=⟨fun | 194=>102 | n=>n,fun | 31=>71 | 9=>9 | 3=>3 | 4=>4 | 0=>0 | n=>n,fun | n=>n⟩
theorem Tryz.lays194 : Go.Proofs.Lays.n194 Tryz.prog Tryz.lays194_ren:={
  mixed:=by kernel_rfl
  f194:=Tryz.func102.trans (congrArg some (by kernel_rfl))
  t0:=Tryz.underlying0
  a0:=Tryz.isAgg0
  z0:=Tryz.sizeOf0
  v0:=Tryz.zeroValue0
  t3:=Tryz.underlying3
  a3:=Tryz.isAgg3
  z3:=Tryz.sizeOf3
  v3:=Tryz.zeroValue3
  t4:=Tryz.underlying4
  a4:=Tryz.isAgg4
  z4:=Tryz.sizeOf4
  v4:=Tryz.zeroValue4
  t9:=Tryz.underlying9
  a9:=Tryz.isAgg9
  z9:=Tryz.sizeOf9
  v9:=Tryz.zeroValue9
  t31:=Tryz.underlying71
  a31:=Tryz.isAgg71
  z31:=Tryz.sizeOf71
  v31:=Tryz.zeroValue71 }
open Go.RowKit Go.Lib Go.Sort in
theorem Tryz.slices_Compact_string (blk off cap : Nat) (zs : List (List UInt8)) (w : World) (hH : Holds encStr w blk off zs.toArray) (hsz : zs.length ≤ 9223372036854775807) (hcap : zs.length ≤ cap) :
    Calls Tryz.prog 102 #[.slice (some ⟨blk,off,none⟩) zs.length cap] w fun e w'=>e = .returned (.slice (some ⟨blk,off,none⟩) (Lib.compact zs).length cap) ∧ ∃ q,w' = putRow encStr (Sort.ahead w q) blk off (Lib.compact zs ++ List.replicate (zs.length - (Lib.compact zs).length) []).toArray:=Any.slices_Compact_string Tryz.lays194 blk off cap zs w hH hsz hcap
end Go.Proofs
namespace Go.Proofs.YtblomnkamngnbaaGreatDoor
open Go.Sx Go.RowKit
theorem zTV : zBF Tryz.prog 2 = some (false,1):=by kernel_rfl
theorem ui64 : Tryz.prog.underlying 2 = some (.int .i64):=by kernel_rfl
theorem uint : Tryz.prog.underlying 3 = some (.int .i64):=by kernel_rfl
theorem uu64 : Tryz.prog.underlying 134 = some (.int .u64):=by kernel_rfl
theorem uu8 : Tryz.prog.underlying 5 = some (.int .u8):=by kernel_rfl
theorem ustr : Tryz.prog.underlying 9 = some .string:=by kernel_rfl
theorem zPd : Tryz.prog.underlying 4 = some .bool:=by kernel_rfl
theorem si64 : (Tryz.prog.underlying 2).isSome = true:=by kernel_rfl
theorem su64 : (Tryz.prog.underlying 134).isSome = true:=by kernel_rfl
theorem si32 : (Tryz.prog.underlying 21).isSome = true:=by kernel_rfl
theorem zNy : zAO Tryz.prog 90 = true:=by kernel_rfl
theorem zSo : zAO Tryz.prog 81 = true:=by kernel_rfl
theorem zUV : zAO Tryz.prog 121 = true:=by kernel_rfl
theorem zLj : zAO Tryz.prog 73 = true:=by kernel_rfl
theorem zGY (n : Int) : IntKind.u64.wrap n = n % 18446744073709551616:=by simp [IntKind.wrap,IntKind.bits,IntKind.signed]
theorem zGZ (n : Int) : IntKind.i64.wrap n = (n + 9223372036854775808) % 18446744073709551616 - 9223372036854775808:=by
  simp [IntKind.wrap,IntKind.bits,IntKind.signed];split <;> omega
theorem zT7 (n : Int) : IntKind.u8.wrap n = n % 256:=by simp [IntKind.wrap,IntKind.bits,IntKind.signed]
def W (n : Int) : Int:=(n + 4611686018427387904) % 9223372036854775808 - 4611686018427387904
theorem zMQ (n : Int) (h0 : -9223372036854775808 ≤ n) (h1 : n ≤ 9223372036854775807) : zAm Tryz.prog 73 [i64 n,i64 10] (str (Lib.itoa n)) :=
  zIQ (us:=[.int .i64 n,.int .i64 10]) (fun _ _=>.val _) fun _ w hgl=>(Tryz.strconv_FormatInt_10 n h0 h1 w (by
    obtain ⟨_,_,⟨e,t,h3⟩,_⟩:=hgl
    have key : ∀ (o : Option Nat),o = some 0 → (o.bind fun g=>match w.heap[g]? with | some (.cells cs _ _)=>some cs | _=>none) = some (Lib.pow10Tab.map fun z=>Value.int .u64 z).toArray:=by
      rintro _ rfl;simp only [Option.bind_some,h3]
    exact key _ (by kernel_rfl))).mono fun e w' ⟨he,k,os,hw⟩=>⟨he,by
      subst hw
      exact ⟨rfl,rfl,rfl,by simp [Sort.grow,World.drewN],fun i hi=>by simp [Sort.grow,World.drewN,Array.getElem?_append,hi]⟩⟩
end Go.Proofs.YtblomnkamngnbaaGreatDoor
namespace Go.Proofs.YtblomnkamngnbaaGreatDoor
open Go.Sx
structure Tk where
  kind : Int
  text : List UInt8
  num : Int
  pos : Int
deriving DecidableEq
def signL : List UInt8:=[33,36,37,38,42,43,45,47,58,60,61,62,63,64,94,124]
def zDT (c : UInt8) : Bool:=signL.contains c
def zDt (c : UInt8) : Bool:=decide (97 ≤ c.toNat ∧ c.toNat ≤ 122)
def zDY (c : UInt8) : Bool:=decide (65 ≤ c.toNat ∧ c.toNat ≤ 90)
def zGP (c : UInt8) : Bool:=decide (48 ≤ c.toNat ∧ c.toNat ≤ 57)
def zFA (c : UInt8) : Bool:=zDt c || zDY c || zGP c || c == 95 || c == 39
def kws : List (List UInt8):=[[108,101,116],[114,101,99],[105,110],[102,117,110],[105,102],[116,104,101,110],[101,108,115,101],[109,97,116,99,104],[119,105,116,104],[101,110,100],[114,97,105,115,101],[116,114,121],[111,112,101,110],[116,121,112,101],[111,102],[105,110,102,105,120,108],[105,110,102,105,120,114],[105,110,102,105,120],[45,62],[61],[124],[40],[41],[95],[59,59]]
def zMm (s : List UInt8) : Bool:=kws.contains s
def zJA (p : UInt8 → Bool) : List UInt8 → Nat
  | []=>0
  | c :: s=>if p c then zJA p s + 1 else 0
end Go.Proofs.YtblomnkamngnbaaGreatDoor
namespace Go.Proofs.YtblomnkamngnbaaGreatDoor
open Go.Sx Go.RowKit
theorem zBx : zA9 Tryz.prog 71 = some 1:=by kernel_rfl
theorem zDu : (zB8 Tryz.prog 71).isSome = true:=by kernel_rfl
theorem zCG : zB8 Tryz.prog 71 = some 9:=by kernel_rfl
theorem fo_0 : zBH Tryz.prog 68 0 = some 0:=by kernel_rfl
theorem fo_1 : zBH Tryz.prog 68 1 = some 1:=by kernel_rfl
theorem fo_2 : zBH Tryz.prog 68 2 = some 2:=by kernel_rfl
theorem fo_3 : zBH Tryz.prog 68 3 = some 3:=by kernel_rfl
theorem zK4 : zBF Tryz.prog 9 = some (false,1):=by kernel_rfl
theorem zTU : zBF Tryz.prog 3 = some (false,1):=by kernel_rfl
theorem zPi : zBF Tryz.prog 66 = some (false,1):=by kernel_rfl
theorem zFS : zBF Tryz.prog 71 = some (false,1):=by kernel_rfl
theorem zCt : zBF Tryz.prog 26 = some (false,1):=by kernel_rfl
theorem zKu : zDP Tryz.prog 9 = some 1:=by kernel_rfl
theorem zIz : zDK Tryz.prog 71 = some 16:=by kernel_rfl
theorem zEg : (zBk Tryz.prog 9).isSome = true:=by kernel_rfl
theorem zNG : zBk Tryz.prog 68 = some [.int .i64 0,.string ByteArray.empty,.int .i64 0,.int .i64 0]:=by kernel_rfl
theorem zTm : zAO Tryz.prog 87 = true:=by kernel_rfl
theorem zSh : zAO Tryz.prog 124 = true:=by kernel_rfl
theorem zNz : zAO Tryz.prog 88 = true:=by kernel_rfl
theorem zN2 : zAO Tryz.prog 89 = true:=by kernel_rfl
theorem zSr : zAO Tryz.prog 122 = true:=by kernel_rfl
theorem zSq : zAO Tryz.prog 86 = true:=by kernel_rfl
theorem zUT : zAO Tryz.prog 91 = true:=by kernel_rfl
theorem zTl : zAO Tryz.prog 85 = true:=by kernel_rfl
theorem zHz : zAO Tryz.prog 48 = true:=by kernel_rfl
theorem zLh : zAO Tryz.prog 84 = true:=by kernel_rfl
theorem zGR : zAO Tryz.prog 123 = true:=by kernel_rfl
theorem zSs : zAO Tryz.prog 140 = true:=by kernel_rfl
theorem zQj : zAO Tryz.prog 141 = true:=by kernel_rfl
theorem zLi : zAO Tryz.prog 125 = true:=by kernel_rfl
theorem zQd : zAO Tryz.prog 120 = true:=by kernel_rfl
theorem zUU : zAO Tryz.prog 80 = true:=by kernel_rfl
theorem zVc : zAO Tryz.prog 78 = true:=by kernel_rfl
theorem zNx : zAO Tryz.prog 79 = true:=by kernel_rfl
theorem zJW : zAO Tryz.prog 42 = true:=by kernel_rfl
def Tk.av (n : Tk) : D:=.agg [.val (.int .i64 n.kind),.val (.string ⟨n.text.toArray⟩),.val (.int .i64 n.num),.val (.int .i64 n.pos)]
def strs (L : List (List UInt8)) : D:=.slice (L.map str)
theorem zJd (L : List (List UInt8)) : zB5 (L.map str) = L.map str:=by
  induction L with
  | nil=>rfl
  | cons x r ih=>exact congrArg (_ :: ·) ih
theorem zSL {w : World} {b : Nat} {L : List (List UInt8)} {e : TypeId} {t : Nat × Nat} {St : Stab} (hs : ∀ o,St b o) (hm : L.length ≤ maxLen) (h : w.heap[b]? = some (.cells (L.map fun l=>Value.string ⟨l.toArray⟩).toArray e t)) :
    RepD St w (.slice (some ⟨b,0,none⟩) L.length L.length) (strs L):=by
  refine .slice _ _ _ 1 (L.map str) (L.map fun l=>Value.string ⟨l.toArray⟩) (by simp) (Nat.le_refl _) hm (fun x hx=>?_) (by rw [zJd];simp) (fun u hu=>?_) (fun _=>⟨_,rfl,fun j u hu=>⟨hs _,?_⟩⟩) (fun j u d hu hd=>?_)
  · obtain ⟨l,_,rfl⟩:=List.mem_map.1 hx;rfl
  · obtain ⟨l,_,rfl⟩:=List.mem_map.1 hu;rfl
  · rw [Addr.add_lit,Nat.zero_add,cell_of_row w b j _ e t h];simpa using hu
  · rw [zJd,List.getElem?_map] at hd
    rw [List.getElem?_map] at hu
    cases hl : L[j]? with
    | none=>rw [hl] at hu;cases hu
    | some l=>rw [hl] at hu hd;cases hu;cases hd;exact .val _
def wordsT : List UInt8:=[108,101,116,32,114,101,99,32,105,110,32,102,117,110,32,105,102,32,116,104,101,110,32,101,108,115,101,32,109,97,116,99,104,32,119,105,116,104,32,101,110,100,32,114,97,105,115,101,32,116,114,121,32,111,112,101,110,32,116,121,112,101,32,111,102,32,105,110,102,105,120,108,32,105,110,102,105,120,114,32,105,110,102,105,120,32,45,62,32,61,32,124,32,40,32,41,32,95,32,59,59]
theorem zOW : Lib.fields wordsT = kws:=by decide +kernel
theorem zS9 {s : List UInt8} (h : s.all (fun b=>decide (b.toNat < 128)) = true) : ∀ (j : Nat) b,s[j]? = some b → b.toNat < 128:=fun _j b hb=>of_decide_eq_true (List.all_eq_true.1 h b (List.mem_of_getElem? hb))
theorem zRt : zAm Tryz.prog 141 [str wordsT] (strs kws):=by
  intro St w vs hst hgl hr
  obtain ⟨v,rfl,hv⟩ : ∃ v,vs = [v] ∧ v = .string ⟨wordsT.toArray⟩:=by
    have:=RepDs.vals (us:=[.string ⟨wordsT.toArray⟩]) hr
    exact ⟨_,this,rfl⟩
  subst hv
  refine (Tryz.strings_Fields_laid ⟨wordsT.toArray⟩ w (by decide) (zS9 (by decide)) ?_).mono fun e w' ⟨he,hw⟩=>?_
  · obtain ⟨_,_,_,e,t,h0⟩:=hgl
    have key : ∀ (o : Option Nat),o = some 1 → (o.bind fun g=>match w.heap[g]? with | some (.cells cs _ _)=>some cs | _=>none) = some (Lib.asciiSpaceTab.map fun z=>Value.int .u8 z).toArray:=by
      rintro _ rfl;simp only [Option.bind_some,h0]
    exact key _ (by kernel_rfl)
  · rw [show Lib.fields (⟨wordsT.toArray⟩ : ByteArray).data.toList = kws from zOW] at he hw
    subst hw
    refine ⟨_,fun b o=>St b o ∨ b = w.heap.size,he,zSL (fun _=>.inr rfl) (by decide) (t:=(0,0)) (by show (w.heap.push _)[w.heap.size]? = _;exact Array.getElem?_push_size),(Below.refl _ _).alloc (Nat.le_refl _) _,?_,fun b o h=>h.imp id (fun h=>by omega),fun b o h=>?_⟩
    · refine ⟨fun _ _ h=>.inl h,fun b o u hc hu=>?_,fun b hc=>?_⟩
      · exact (World.cell?_of_block (a:=⟨b,o,none⟩) (Below.heap_alloc _ _ _ (hst b o hc))).trans hu
      · exact Below.heap_alloc _ _ _ (hst b 0 (hc 0))
    · show b < (w.heap.push _).size
      rw [Array.size_push];rcases h with h | h
      · have:=hst b o h;omega
      · omega
theorem zMO (s : List UInt8) (c : UInt8) : zAm Tryz.prog 125 [str s,.val (.int .u8 c.toNat)] (i64 (Lib.indexByte s c)) :=
  zIQ (us:=[.string ⟨s.toArray⟩,.int .u8 c.toNat]) (fun _ _=>.val _) fun _ w _=>(Tryz.strings_IndexByte _ _ w).mono fun e w' ⟨he,hw⟩=>⟨by rw [he];simp,by subst hw;exact Below.refl _ _⟩
end Go.Proofs.YtblomnkamngnbaaGreatDoor
