/- Texts of this claim, merged: NodF, NodA, Shelf, WrdF, LexP, LexF, WrdA, WrdC, WrdD, WrdE, WrdG, RefS. -/
import Derived.Test.YtblomnkamngnbaaGreatDoorProg
import Derived.Shelf.Small.Bits
import Derived.Shelf.Small.Strs
import Derived.Shelf.Strconv.Itoa0
import Derived.Shelf.Strconv.Itoa1
import Derived.Shelf.LaysM
import Derived.Shelf.Strconv.Itoa2
import Derived.Shelf.Strconv.Itoa3
import Derived.Shelf.Strconv.Itoa4
import Derived.Shelf.Strings.Search1
import Derived.Shelf.Sort.Plain
import Derived.Shelf.Strings.Fields
import Derived.Shelf.Strings.SplitShaped
import Derived.Shelf.Unicode.Latin
import Derived.Shelf.Unicode.Is16White
import Derived.Shelf.Unicode.IsSpaceAny
import Derived.Shelf.Unicode.Is16Any
import Derived.Shelf.Unicode.Is32Any
import Derived.Shelf.Unicode.ExclAny
import Derived.Shelf.Slices.CompactS
import Derived.Shelf.Slices.Cells
import Derived.Lib.ItoaLen
import Derived.Lib.CutLaws
import Derived.Test.YtblomnkamngnbaaGreatDoorMAB
namespace Go.Proofs.YtblomnkamngnbaaGreatDoor
open Go.Sx
theorem zAW : zBG Tryz.prog 23 = some 4:=by kernel_rfl
theorem zA7 : zBG Tryz.prog 52 = some 1:=by kernel_rfl
theorem zCS : zBG Tryz.prog 47 = some 1:=by kernel_rfl
theorem zA0 : (zB6 Tryz.prog 23).isSome = true:=by kernel_rfl
theorem zBw : (zB6 Tryz.prog 52).isSome = true:=by kernel_rfl
theorem zGf : (zB6 Tryz.prog 47).isSome = true:=by kernel_rfl
theorem zBd : zB6 Tryz.prog 23 = some 40:=by kernel_rfl
theorem zC2 : zB6 Tryz.prog 52 = some 3:=by kernel_rfl
theorem zD1 : zB6 Tryz.prog 47 = some 23:=by kernel_rfl
theorem fn_0 : zBN Tryz.prog 40 0 = some 0:=by kernel_rfl
theorem fn_1 : zBN Tryz.prog 40 1 = some 1:=by kernel_rfl
theorem fn_2 : zBN Tryz.prog 40 2 = some 2:=by kernel_rfl
theorem fn_3 : zBN Tryz.prog 40 3 = some 3:=by kernel_rfl
theorem zAs : zBL Tryz.prog 3 = some (false,1):=by kernel_rfl
theorem zAe : zBL Tryz.prog 38 = some (false,1):=by kernel_rfl
theorem zBK : zBL Tryz.prog 2 = some (false,1):=by kernel_rfl
theorem zAv : zBL Tryz.prog 9 = some (false,1):=by kernel_rfl
theorem zGF : zBL Tryz.prog 4 = some (false,1):=by kernel_rfl
theorem zAn : zBL Tryz.prog 23 = some (false,1):=by kernel_rfl
theorem zJh : zBL Tryz.prog 52 = some (false,1):=by kernel_rfl
theorem zAY : zBL Tryz.prog 40 = some (true,4):=by kernel_rfl
theorem zER : zDK Tryz.prog 40 = some 4:=by kernel_rfl
theorem zIv : zDK Tryz.prog 3 = some 1:=by kernel_rfl
theorem zMf : zDK Tryz.prog 23 = some 1:=by kernel_rfl
theorem zDP : zDF Tryz.prog 23 = some 40:=by kernel_rfl
theorem zHC : zDF Tryz.prog 52 = some 8:=by kernel_rfl
theorem zLg : zDF Tryz.prog 47 = some 24:=by kernel_rfl
theorem zDQ : (zBo Tryz.prog 40).isSome = true:=by kernel_rfl
theorem zIu : (zBo Tryz.prog 3).isSome = true:=by kernel_rfl
theorem zHb : (zBo Tryz.prog 23).isSome = true:=by kernel_rfl
theorem zAp : zBo Tryz.prog 40 = some [.int .i64 0,.string ByteArray.empty,.int .i64 0,.int .i64 0]:=by kernel_rfl
theorem zSu : zBo Tryz.prog 3 = some [.int .i64 0]:=by kernel_rfl
theorem zSv : zQ4 Tryz.prog 40 = some (.agg [.val (.int .i64 0),.val (.string ByteArray.empty),.val (.int .i64 0),.val (.int .i64 0)]):=by kernel_rfl
theorem zFs : zAT Tryz.prog 92 = true:=by kernel_rfl
theorem zFk : zAT Tryz.prog 49 = true:=by kernel_rfl
theorem zCY : zAT Tryz.prog 54 = true:=by kernel_rfl
theorem zUb : zAT Tryz.prog 99 = true:=by kernel_rfl
theorem zPr : zAT Tryz.prog 16 = true:=by kernel_rfl
theorem zFL : zAT Tryz.prog 118 = true:=by kernel_rfl
theorem zGY : zAT Tryz.prog 72 = true:=by kernel_rfl
theorem zEw : zAT Tryz.prog 27 = true:=by kernel_rfl
theorem zEe : zAT Tryz.prog 23 = true:=by kernel_rfl
theorem zPo : zAT Tryz.prog 43 = true:=by kernel_rfl
theorem zGZ : zAT Tryz.prog 24 = true:=by kernel_rfl
theorem zTQ : zAT Tryz.prog 17 = true:=by kernel_rfl
theorem zEX : Tryz.prog.underlying 3 = some (.int .i64):=by kernel_rfl
structure Nd where
  kind : Int
  text : List UInt8
  num : Int
  kids : Int
deriving DecidableEq
def Nd.av (n : Nd) : D:=.agg [.val (.int .i64 n.kind),.val (.string ⟨n.text.toArray⟩),.val (.int .i64 n.num),.val (.int .i64 n.kids)]
def zAc (L : List Nd) : D:=.slice (L.map Nd.av)
def ival (n : Int) : D:=.val (.int .i64 n)
def zBm (L : List Int) : D:=.slice (L.map ival)
def zFr (LL : List (List Nd)) : D:=.slice (LL.map zAc)
def zEH (n : Nat) : List Nd → Int → Int → Int
  | [],_,_=>-1
  | x :: r,o,a=>if x.kids < 0 ∨ x.kids > n then -1 else if o + (x.kids - 1) > 0 then zEH n r (o + (x.kids - 1)) (a + 1) else a + 1
def endF (L : List Nd) (a : Int) : Int:=if a < 0 then -1 else zEH L.length (L.drop a.toNat) 1 a
theorem zEl {L : List Nd} {k : Nat} (h : L.length ≤ k) (n : Nat) (o a : Int) : zEH n (L.drop k) o a = -1:=by
  rw [List.drop_of_length_le h];rfl
theorem zDW {L : List Nd} {k : Nat} {x : Nd} (h : L[k]? = some x) (n : Nat) (o a : Int) : zEH n (L.drop k) o a = if x.kids < 0 ∨ x.kids > n then -1 else if o + (x.kids - 1) > 0 then zEH n (L.drop (k + 1)) (o + (x.kids - 1)) (a + 1) else a + 1:=by
  obtain ⟨hk,rfl⟩:=List.getElem?_eq_some_iff.1 h
  rw [List.drop_eq_getElem_cons hk];rfl
end Go.Proofs.YtblomnkamngnbaaGreatDoor
namespace Go.Proofs.YtblomnkamngnbaaGreatDoor
open Go.Sx
attribute [local irreducible] Ylds zBA alex zBe zBP awp zAj zBZ zBk zA2 zBH zBR zA8 zBV zBb zBf
theorem zFx (L : List Nd) (at_ : Int) (hL : L.length ≤ 2000000) : zAj Tryz.prog 92 [zAc L,i64 at_] (i64 (endF L at_)):=by
  refine zAd Tryz.func92 rfl Tryz.ntmps92 Tryz.results92 rfl ?_
  intro wb St0
  repeat' first | apply en_n|apply zAH|apply zAB|apply zAF|apply w0|apply ay (hd:=rfl)|exact zAC rfl
  refine zMT (α:=Int × Nat) 0 rfl rfl (fun p=>zEH L.length (L.drop p.2) p.1 p.2 = endF L at_ ∧ 1 ≤ p.1 ∧ p.1 ≤ 1 + p.2 * 2000000) (fun p=>[(0,.d (zAc L)),(1,.d (i64 p.2)),(5,.d (i64 p.1))]) (fun _=>[]) (fun p=>L.length - p.2) ?_ ?_
  · skip
    repeat' first | apply en_n|apply zAH|apply zAB|apply zAF|apply w0|apply ay (hd:=rfl)|exact zAE rfl|exact zAC rfl|exact zCT rfl rfl|(apply zAz;exact rfl;(intro hb);rotate_left;(intro hb);rotate_right)|apply zAP|apply zAM|apply en_r|apply ej_r|apply zAJ|(apply res1;exact rfl)
    · rw [endF,if_pos hb]
    · refine ⟨(1,at_.toNat),⟨?_,by omega,by simp only;omega⟩,zAO (zAA rfl (Le_d rfl ?_ (zAA rfl zAa))) zAN rfl rfl⟩
      · rw [endF,if_neg hb];simp only;rw [Int.toNat_of_nonneg (by omega)]
      · simp only;rw [Int.toNat_of_nonneg (by omega)]
  · rintro ⟨o,k⟩ ⟨h1,h2,h3⟩
    dsimp only at h1 h2 h3 ⊢
    repeat' first | apply en_n|apply zAH|apply zAB|apply zAF|apply w0|(apply aJ (hd:=rfl);(first|exact zAk rfl|exact Co_bb rfl rfl rfl|exact Co_nn rfl);exact rfl;(with_reducible exact zAW);assumption;omega;exact fun _=>rfl)|(apply aI (hd:=rfl);(first|exact zAk rfl|exact Co_bb rfl rfl rfl|exact Co_nn rfl);exact rfl;(with_reducible exact zAW);exact fun _=>rfl;rotate_left;intro v hv;rotate_right)|apply ay (hd:=rfl)|exact zAE rfl|exact zAC rfl|(apply zAy;exact rfl;(with_reducible exact fn_3))|(apply zAg;exact rfl;(with_reducible exact zAs))|(apply zAl;exact rfl;(with_reducible exact zA0))|exact zCT rfl rfl|exact zEp rfl rfl|exact zEU rfl rfl|(apply zBC;exact rfl;exact rfl)|(apply zIt;exact rfl;exact rfl)|exact zAi rfl rfl|exact zAh rfl rfl|(apply w1;exact rfl;exact rfl)|(apply k0 (hd:=rfl);exact rfl;exact rfl)|(apply gD;exact rfl;exact rfl;(intro hb);rotate_left;(intro hb);rotate_right)|(apply zAz;exact rfl;(intro hb);rotate_left;(intro hb);rotate_right)|(apply zAK;exact rfl)|apply zAP|apply zAM|apply zR4|apply en_r|apply en_g|apply ej_r|apply ej_g|apply zAJ|(apply res1;exact rfl)
    all_goals try omega
    · rw [← h1,zEl (by omega)]
    · rw [← h1,zDW (k:=k) hv,if_pos (by omega)]
    · rw [← h1,zDW (k:=k) hv,if_pos (by omega)]
    · rw [zDW (k:=k) hv,if_neg (by omega),if_pos (by omega)] at h1
      refine ⟨(o + (v.kids - 1),k + 1),⟨h1,by simp only;omega,by simp only;omega⟩,?_,zAO (zAA rfl (zAA rfl (zAA rfl zAa))) zAN rfl rfl⟩
      simp only;omega
    · rw [← h1,zDW (k:=k) hv,if_neg (by omega),if_neg (by omega)]
end Go.Proofs.YtblomnkamngnbaaGreatDoor
namespace Go.Proofs
open Go.Shelf
def Tryz.lays137_ren : Go.Shelf.Ren:=⟨fun | 137=>125 | 217=>142 | 266=>165 | n=>n,fun | 9=>9 | 5=>5 | 3=>3 | n=>n,fun | n=>n⟩
theorem Tryz.lays137 : Go.Proofs.Lays.n137 Tryz.prog Tryz.lays137_ren:={
  mixed:=by kernel_rfl
  f137:=Tryz.func125.trans (congrArg some (by kernel_rfl))
  f217:=Tryz.func142.trans (congrArg some (by kernel_rfl))
  f266:=Tryz.func165.trans (congrArg some (by kernel_rfl))
  t3:=Tryz.underlying3
  a3:=Tryz.isAgg3
  z3:=Tryz.sizeOf3
  v3:=Tryz.zeroValue3
  t5:=Tryz.underlying5
  a5:=Tryz.isAgg5
  z5:=Tryz.sizeOf5
  v5:=Tryz.zeroValue5
  t9:=Tryz.underlying9
  a9:=Tryz.isAgg9
  z9:=Tryz.sizeOf9
  v9:=Tryz.zeroValue9 }
open Go.RowKit in
theorem Tryz.strings_IndexByte (s : ByteArray) (c : Int) (w : World) :
    Calls Tryz.prog 125 #[.string s,.int .u8 c] w fun e w'=>e = .returned (.int .i64 (Lib.indexByte s.data.toList c.toNat.toUInt8)) ∧ w' = w:=Any.strings_IndexByte Tryz.lays137 s c w
def Tryz.laysM173_ren : Go.Shelf.Ren:=⟨fun | 173=>73 | 246=>119 | 283=>136 | 284=>137 | 285=>138 | 286=>139 | 129=>156 | 317=>159 | 318=>160 | 319=>161 | 320=>162 | 337=>174 | 338=>175 | n=>n,fun | 2=>2 | 3=>3 | 9=>9 | 4=>4 | 171=>152 | 0=>0 | 53=>134 | 37=>155 | 5=>5 | 173=>156 | 212=>174 | 51=>171 | 20=>20 | 213=>175 | 46=>136 | 232=>193 | 233=>194 | n=>n,fun | 17=>0 | 18=>4 | 19=>5 | n=>n⟩
theorem Tryz.laysM173 : Go.Proofs.LaysM.n173 Tryz.prog Tryz.laysM173_ren:={
  mixed:=by kernel_rfl
  f129:=Tryz.func156.trans (congrArg some (by kernel_rfl))
  f173:=Tryz.func73.trans (congrArg some (by kernel_rfl))
  f246:=Tryz.func119.trans (congrArg some (by kernel_rfl))
  f283:=Tryz.func136.trans (congrArg some (by kernel_rfl))
  f284:=Tryz.func137.trans (congrArg some (by kernel_rfl))
  f285:=Tryz.func138.trans (congrArg some (by kernel_rfl))
  f286:=Tryz.func139.trans (congrArg some (by kernel_rfl))
  f317:=Tryz.func159.trans (congrArg some (by kernel_rfl))
  f318:=Tryz.func160.trans (congrArg some (by kernel_rfl))
  f319:=Tryz.func161.trans (congrArg some (by kernel_rfl))
  f320:=Tryz.func162.trans (congrArg some (by kernel_rfl))
  f337:=Tryz.func174.trans (congrArg some (by kernel_rfl))
  f338:=Tryz.func175.trans (congrArg some (by kernel_rfl))
  t0:=Tryz.underlying0
  a0:=Tryz.isAgg0
  z0:=Tryz.sizeOf0
  v0:=Tryz.zeroValue0
  t2:=Tryz.underlying2
  a2:=Tryz.isAgg2
  z2:=Tryz.sizeOf2
  v2:=Tryz.zeroValue2
  t3:=Tryz.underlying3
  a3:=Tryz.isAgg3
  z3:=Tryz.sizeOf3
  v3:=Tryz.zeroValue3
  t4:=Tryz.underlying4
  a4:=Tryz.isAgg4
  z4:=Tryz.sizeOf4
  v4:=Tryz.zeroValue4
  t5:=Tryz.underlying5
  a5:=Tryz.isAgg5
  z5:=Tryz.sizeOf5
  v5:=Tryz.zeroValue5
  t9:=Tryz.underlying9
  a9:=Tryz.isAgg9
  z9:=Tryz.sizeOf9
  v9:=Tryz.zeroValue9
  t20:=Tryz.underlying20
  a20:=Tryz.isAgg20
  z20:=Tryz.sizeOf20
  v20:=Tryz.zeroValue20
  t37:=Tryz.underlying155
  a37:=Tryz.isAgg155
  z37:=Tryz.sizeOf155
  v37:=Tryz.zeroValue155
  t46:=Tryz.underlying136
  a46:=Tryz.isAgg136
  z46:=Tryz.sizeOf136
  v46:=Tryz.zeroValue136
  t51:=Tryz.underlying171
  a51:=Tryz.isAgg171
  z51:=Tryz.sizeOf171
  v51:=Tryz.zeroValue171
  t53:=Tryz.underlying134
  a53:=Tryz.isAgg134
  z53:=Tryz.sizeOf134
  v53:=Tryz.zeroValue134
  t171:=Tryz.underlying152
  a171:=Tryz.isAgg152
  z171:=Tryz.sizeOf152
  v171:=Tryz.zeroValue152
  t173:=Tryz.underlying156
  a173:=Tryz.isAgg156
  z173:=Tryz.sizeOf156
  v173:=Tryz.zeroValue156
  t212:=Tryz.underlying174
  a212:=Tryz.isAgg174
  z212:=Tryz.sizeOf174
  v212:=Tryz.zeroValue174
  t213:=Tryz.underlying175
  a213:=Tryz.isAgg175
  z213:=Tryz.sizeOf175
  t232:=Tryz.underlying193
  a232:=Tryz.isAgg193
  z232:=Tryz.sizeOf193
  v232:=Tryz.zeroValue193
  t233:=Tryz.underlying194
  a233:=Tryz.isAgg194
  z233:=Tryz.sizeOf194
  v233:=Tryz.zeroValue194
  g17:=by kernel_rfl
  g18:=by kernel_rfl
  g19:=by kernel_rfl
  i0:=by kernel_rfl
  i2:=by kernel_rfl
  i3:=by kernel_rfl
  i4:=by kernel_rfl
  i5:=by kernel_rfl
  i9:=by kernel_rfl
  i20:=by kernel_rfl
  i37:=by kernel_rfl
  i46:=by kernel_rfl
  i51:=by kernel_rfl
  i53:=by kernel_rfl
  i171:=by kernel_rfl
  i173:=by kernel_rfl
  i212:=by kernel_rfl
  i232:=by kernel_rfl
  i233:=by kernel_rfl
  m17:=by kernel_rfl
  m18:=by kernel_rfl
  m19:=by kernel_rfl }
open Go.RowKit Go.Sort Go.Lib in
theorem Tryz.strconv_FormatInt_10 (n : Int) (h0 : -9223372036854775808 ≤ n) (h1 : n ≤ 9223372036854775807) (w : World) (htab : Lib.TabIs Tryz.prog w "internal/strconv.uint64pow10" .u64 Lib.pow10Tab) :
    Calls Tryz.prog 73 #[.int .i64 n,.int .i64 10] w fun e w'=>e = .returned (.string ⟨(Lib.itoa n).toArray⟩) ∧ ∃ k os,w' = grow (w.drewN k) os:=Any.strconv_FormatInt_10 Tryz.laysM173 n h0 h1 w htab
def Tryz.lays190_ren : Go.Shelf.Ren:=⟨fun | 190=>101 | 125=>128 | 258=>127 | 128=>155 | 129=>156 | 302=>146 | 303=>147 | 304=>148 | 305=>149 | 306=>150 | 307=>151 | 308=>152 | 309=>153 | 310=>154 | 333=>167 | 329=>168 | 330=>169 | 334=>170 | 335=>171 | 336=>172 | 344=>177 | n=>n,fun | 31=>71 | 9=>9 | 3=>3 | 46=>136 | 0=>0 | 51=>171 | 53=>134 | 4=>4 | 183=>163 | 182=>162 | 131=>168 | 5=>5 | 218=>179 | 222=>183 | 228=>190 | 229=>191 | n=>n,fun | n=>n⟩
theorem Tryz.lays190 : Go.Proofs.Lays.n190 Tryz.prog Tryz.lays190_ren:={
  mixed:=by kernel_rfl
  f125:=Tryz.func128.trans (congrArg some (by kernel_rfl))
  f128:=Tryz.func155.trans (congrArg some (by kernel_rfl))
  f129:=Tryz.func156.trans (congrArg some (by kernel_rfl))
  f190:=Tryz.func101.trans (congrArg some (by kernel_rfl))
  f258:=Tryz.func127.trans (congrArg some (by kernel_rfl))
  f302:=Tryz.func146.trans (congrArg some (by kernel_rfl))
  f303:=Tryz.func147.trans (congrArg some (by kernel_rfl))
  f304:=Tryz.func148.trans (congrArg some (by kernel_rfl))
  f305:=Tryz.func149.trans (congrArg some (by kernel_rfl))
  f306:=Tryz.func150.trans (congrArg some (by kernel_rfl))
  f307:=Tryz.func151.trans (congrArg some (by kernel_rfl))
  f308:=Tryz.func152.trans (congrArg some (by kernel_rfl))
  f309:=Tryz.func153.trans (congrArg some (by kernel_rfl))
  f310:=Tryz.func154.trans (congrArg some (by kernel_rfl))
  f329:=Tryz.func168.trans (congrArg some (by kernel_rfl))
  f330:=Tryz.func169.trans (congrArg some (by kernel_rfl))
  f333:=Tryz.func167.trans (congrArg some (by kernel_rfl))
  f334:=Tryz.func170.trans (congrArg some (by kernel_rfl))
  f335:=Tryz.func171.trans (congrArg some (by kernel_rfl))
  f336:=Tryz.func172.trans (congrArg some (by kernel_rfl))
  f344:=Tryz.func177.trans (congrArg some (by kernel_rfl))
  t0:=Tryz.underlying0
  a0:=Tryz.isAgg0
  z0:=Tryz.sizeOf0
  v0:=Tryz.zeroValue0
  t3:=Tryz.underlying3
  a3:=Tryz.isAgg3
  z3:=Tryz.sizeOf3
  v3:=Tryz.zeroValue3
  t4:=Tryz.underlying4
  a4:=Tryz.isAgg4
  z4:=Tryz.sizeOf4
  v4:=Tryz.zeroValue4
  t5:=Tryz.underlying5
  a5:=Tryz.isAgg5
  z5:=Tryz.sizeOf5
  v5:=Tryz.zeroValue5
  t9:=Tryz.underlying9
  a9:=Tryz.isAgg9
  z9:=Tryz.sizeOf9
  v9:=Tryz.zeroValue9
  t31:=Tryz.underlying71
  a31:=Tryz.isAgg71
  z31:=Tryz.sizeOf71
  v31:=Tryz.zeroValue71
  t46:=Tryz.underlying136
  a46:=Tryz.isAgg136
  z46:=Tryz.sizeOf136
  v46:=Tryz.zeroValue136
  t51:=Tryz.underlying171
  a51:=Tryz.isAgg171
  z51:=Tryz.sizeOf171
  v51:=Tryz.zeroValue171
  t53:=Tryz.underlying134
  a53:=Tryz.isAgg134
  z53:=Tryz.sizeOf134
  v53:=Tryz.zeroValue134
  t131:=Tryz.underlying168
  a131:=Tryz.isAgg168
  z131:=Tryz.sizeOf168
  v131:=Tryz.zeroValue168
  t182:=Tryz.underlying162
  a182:=Tryz.isAgg162
  z182:=Tryz.sizeOf162
  v182:=Tryz.zeroValue162
  t183:=Tryz.underlying163
  a183:=Tryz.isAgg163
  z183:=Tryz.sizeOf163
  v183:=Tryz.zeroValue163
  t218:=Tryz.underlying179
  a218:=Tryz.isAgg179
  z218:=Tryz.sizeOf179
  v218:=Tryz.zeroValue179
  t222:=Tryz.underlying183
  a222:=Tryz.isAgg183
  z222:=Tryz.sizeOf183
  v222:=Tryz.zeroValue183
  t228:=Tryz.underlying190
  a228:=Tryz.isAgg190
  z228:=Tryz.sizeOf190
  v228:=Tryz.zeroValue190
  t229:=Tryz.underlying191
  a229:=Tryz.isAgg191
  z229:=Tryz.sizeOf191
  v229:=Tryz.zeroValue191 }
open Go.Sort Go.RowKit in
theorem Tryz.slices_Sort_string (blk off cap : Nat) (ss : List (List UInt8)) (w : World) (hH : Holds encStr w blk off ss.toArray) (hblk : blk < w.heap.size) (hsz : ss.length < 4611686018427387904) :
    Calls Tryz.prog 101 #[.slice (some ⟨blk,off,none⟩) ss.length cap] w fun e w' =>
      e = .returned (.tuple #[]) ∧ ∃ n os,w' = grow (putRow encStr (Sort.ahead w n) blk off (ss.mergeSort fun x y=>decide (x ≤ y)).toArray) os:=Any.slices_Sort_string Tryz.lays190 blk off cap ss w hH hblk hsz
def Tryz.laysM157_ren : Go.Shelf.Ren:=⟨fun | 157=>141 | 229=>163 | 199=>164 | 261=>176 | 311=>178 | 312=>179 | n=>n,fun | 9=>9 | 31=>71 | 3=>3 | 5=>5 | 4=>4 | 119=>176 | 0=>0 | 40=>178 | 152=>185 | 21=>21 | 154=>187 | 51=>171 | 141=>189 | 196=>198 | 193=>195 | 198=>201 | 49=>199 | 194=>196 | 201=>204 | 226=>206 | 46=>136 | 227=>207 | n=>n,fun | 0=>1 | 6=>2 | n=>n⟩
theorem Tryz.laysM157 : Go.Proofs.LaysM.n157 Tryz.prog Tryz.laysM157_ren:={
  mixed:=by kernel_rfl
  f157:=Tryz.func141.trans (congrArg some (by kernel_rfl))
  f199:=Tryz.func164.trans (congrArg some (by kernel_rfl))
  f229:=Tryz.func163.trans (congrArg some (by kernel_rfl))
  f261:=Tryz.func176.trans (congrArg some (by kernel_rfl))
  f311:=Tryz.func178.trans (congrArg some (by kernel_rfl))
  f312:=Tryz.func179.trans (congrArg some (by kernel_rfl))
  t0:=Tryz.underlying0
  a0:=Tryz.isAgg0
  z0:=Tryz.sizeOf0
  v0:=Tryz.zeroValue0
  t3:=Tryz.underlying3
  a3:=Tryz.isAgg3
  z3:=Tryz.sizeOf3
  v3:=Tryz.zeroValue3
  t4:=Tryz.underlying4
  a4:=Tryz.isAgg4
  z4:=Tryz.sizeOf4
  v4:=Tryz.zeroValue4
  t5:=Tryz.underlying5
  a5:=Tryz.isAgg5
  z5:=Tryz.sizeOf5
  v5:=Tryz.zeroValue5
  t9:=Tryz.underlying9
  a9:=Tryz.isAgg9
  z9:=Tryz.sizeOf9
  v9:=Tryz.zeroValue9
  t21:=Tryz.underlying21
  a21:=Tryz.isAgg21
  z21:=Tryz.sizeOf21
  v21:=Tryz.zeroValue21
  t31:=Tryz.underlying71
  a31:=Tryz.isAgg71
  z31:=Tryz.sizeOf71
  v31:=Tryz.zeroValue71
  t40:=Tryz.underlying178
  a40:=Tryz.isAgg178
  z40:=Tryz.sizeOf178
  v40:=Tryz.zeroValue178
  t46:=Tryz.underlying136
  a46:=Tryz.isAgg136
  z46:=Tryz.sizeOf136
  v46:=Tryz.zeroValue136
  t49:=Tryz.underlying199
  a49:=Tryz.isAgg199
  z49:=Tryz.sizeOf199
  v49:=Tryz.zeroValue199
  t51:=Tryz.underlying171
  a51:=Tryz.isAgg171
  z51:=Tryz.sizeOf171
  v51:=Tryz.zeroValue171
  t119:=Tryz.underlying176
  a119:=Tryz.isAgg176
  z119:=Tryz.sizeOf176
  t141:=Tryz.underlying189
  a141:=Tryz.isAgg189
  z141:=Tryz.sizeOf189
  v141:=Tryz.zeroValue189
  t152:=Tryz.underlying185
  a152:=Tryz.isAgg185
  z152:=Tryz.sizeOf185
  v152:=Tryz.zeroValue185
  t154:=Tryz.underlying187
  a154:=Tryz.isAgg187
  z154:=Tryz.sizeOf187
  v154:=Tryz.zeroValue187
  t193:=Tryz.underlying195
  a193:=Tryz.isAgg195
  z193:=Tryz.sizeOf195
  v193:=Tryz.zeroValue195
  t194:=Tryz.underlying196
  a194:=Tryz.isAgg196
  z194:=Tryz.sizeOf196
  v194:=Tryz.zeroValue196
  t196:=Tryz.underlying198
  a196:=Tryz.isAgg198
  z196:=Tryz.sizeOf198
  v196:=Tryz.zeroValue198
  t198:=Tryz.underlying201
  a198:=Tryz.isAgg201
  z198:=Tryz.sizeOf201
  v198:=Tryz.zeroValue201
  t201:=Tryz.underlying204
  a201:=Tryz.isAgg204
  z201:=Tryz.sizeOf204
  v201:=Tryz.zeroValue204
  t226:=Tryz.underlying206
  a226:=Tryz.isAgg206
  z226:=Tryz.sizeOf206
  v226:=Tryz.zeroValue206
  t227:=Tryz.underlying207
  a227:=Tryz.isAgg207
  z227:=Tryz.sizeOf207
  v227:=Tryz.zeroValue207
  g0:=by kernel_rfl
  g6:=by kernel_rfl
  i0:=by kernel_rfl
  i3:=by kernel_rfl
  i4:=by kernel_rfl
  i5:=by kernel_rfl
  i9:=by kernel_rfl
  i21:=by kernel_rfl
  i31:=by kernel_rfl
  i40:=by kernel_rfl
  i46:=by kernel_rfl
  i49:=by kernel_rfl
  i51:=by kernel_rfl
  i141:=by kernel_rfl
  i152:=by kernel_rfl
  i154:=by kernel_rfl
  i193:=by kernel_rfl
  i194:=by kernel_rfl
  i196:=by kernel_rfl
  i198:=by kernel_rfl
  i201:=by kernel_rfl
  i226:=by kernel_rfl
  i227:=by kernel_rfl
  m0:=by kernel_rfl
  m6:=by kernel_rfl }
open Go.RowKit Go.Lib in
theorem Tryz.strings_Fields_laid (s : ByteArray) (w : World) (hs : s.size < 4294967281) (hascii : ∀ (j : Nat) b,s.data.toList[j]? = some b → b.toNat < 128) (htab : Lib.TabIs Tryz.prog w "strings.asciiSpace" .u8 Lib.asciiSpaceTab) :
    Calls Tryz.prog 141 #[.string s] w fun e w' =>
      e = .returned (.slice (some ⟨w.heap.size,0,none⟩) (Lib.fields s.data.toList).length (Lib.fields s.data.toList).length) ∧ w' = w.alloc (.cells ((Lib.fields s.data.toList).map fun l=>Value.string ⟨l.toArray⟩).toArray 9):=Any.strings_Fields_laid Tryz.laysM157 s w hs hascii htab
def Tryz.lays194_ren : Go.Shelf.Ren:=⟨fun | 194=>102 | n=>n,fun | 31=>71 | 9=>9 | 3=>3 | 4=>4 | 0=>0 | n=>n,fun | n=>n⟩
theorem Tryz.lays194 : Go.Proofs.Lays.n194 Tryz.prog Tryz.lays194_ren:={
  mixed:=by kernel_rfl
  f194:=Tryz.func102.trans (congrArg some (by kernel_rfl))
  t0:=Tryz.underlying0
  a0:=Tryz.isAgg0
  z0:=Tryz.sizeOf0
  v0:=Tryz.zeroValue0
  t3:=Tryz.underlying3
  a3:=Tryz.isAgg3
  z3:=Tryz.sizeOf3
  v3:=Tryz.zeroValue3
  t4:=Tryz.underlying4
  a4:=Tryz.isAgg4
  z4:=Tryz.sizeOf4
  v4:=Tryz.zeroValue4
  t9:=Tryz.underlying9
  a9:=Tryz.isAgg9
  z9:=Tryz.sizeOf9
  v9:=Tryz.zeroValue9
  t31:=Tryz.underlying71
  a31:=Tryz.isAgg71
  z31:=Tryz.sizeOf71
  v31:=Tryz.zeroValue71 }
open Go.RowKit Go.Lib Go.Sort in
theorem Tryz.slices_Compact_string (blk off cap : Nat) (zs : List (List UInt8)) (w : World) (hH : Holds encStr w blk off zs.toArray) (hsz : zs.length ≤ 9223372036854775807) (hcap : zs.length ≤ cap) :
    Calls Tryz.prog 102 #[.slice (some ⟨blk,off,none⟩) zs.length cap] w fun e w'=>e = .returned (.slice (some ⟨blk,off,none⟩) (Lib.compact zs).length cap) ∧ ∃ q,w' = putRow encStr (Sort.ahead w q) blk off (Lib.compact zs ++ List.replicate (zs.length - (Lib.compact zs).length) []).toArray:=Any.slices_Compact_string Tryz.lays194 blk off cap zs w hH hsz hcap
end Go.Proofs
namespace Go.Proofs.YtblomnkamngnbaaGreatDoor
open Go.Sx Go.RowKit
theorem zSP : zBL Tryz.prog 2 = some (false,1):=by kernel_rfl
theorem ui64 : Tryz.prog.underlying 2 = some (.int .i64):=by kernel_rfl
theorem uint : Tryz.prog.underlying 3 = some (.int .i64):=by kernel_rfl
theorem uu64 : Tryz.prog.underlying 134 = some (.int .u64):=by kernel_rfl
theorem uu8 : Tryz.prog.underlying 5 = some (.int .u8):=by kernel_rfl
theorem ustr : Tryz.prog.underlying 9 = some .string:=by kernel_rfl
theorem zGE : Tryz.prog.underlying 4 = some .bool:=by kernel_rfl
theorem si64 : (Tryz.prog.underlying 2).isSome = true:=by kernel_rfl
theorem su64 : (Tryz.prog.underlying 134).isSome = true:=by kernel_rfl
theorem si32 : (Tryz.prog.underlying 21).isSome = true:=by kernel_rfl
theorem zNL : zAT Tryz.prog 90 = true:=by kernel_rfl
theorem zNN : zAT Tryz.prog 81 = true:=by kernel_rfl
theorem zTN : zAT Tryz.prog 121 = true:=by kernel_rfl
theorem zLK : zAT Tryz.prog 73 = true:=by kernel_rfl
theorem zGB (n : Int) : IntKind.u64.wrap n = n % 18446744073709551616:=by simp [IntKind.wrap,IntKind.bits,IntKind.signed]
theorem zGC (n : Int) : IntKind.i64.wrap n = (n + 9223372036854775808) % 18446744073709551616 - 9223372036854775808:=by
  simp [IntKind.wrap,IntKind.bits,IntKind.signed];split <;> omega
theorem zSw (n : Int) : IntKind.u8.wrap n = n % 256:=by simp [IntKind.wrap,IntKind.bits,IntKind.signed]
def W (n : Int) : Int:=(n + 4611686018427387904) % 9223372036854775808 - 4611686018427387904
theorem zLu (n : Int) (h0 : -9223372036854775808 ≤ n) (h1 : n ≤ 9223372036854775807) : zAj Tryz.prog 73 [i64 n,i64 10] (str (Lib.itoa n)) :=
  zID (us:=[.int .i64 n,.int .i64 10]) (fun _ _=>.val _) fun _ w hgl=>(Tryz.strconv_FormatInt_10 n h0 h1 w (by
    obtain ⟨_,_,⟨e,t,h3⟩,_⟩:=hgl
    have key : ∀ (o : Option Nat),o = some 0 → (o.bind fun g=>match w.heap[g]? with | some (.cells cs _ _)=>some cs | _=>none) = some (Lib.pow10Tab.map fun z=>Value.int .u64 z).toArray:=by
      rintro _ rfl;simp only [Option.bind_some,h3]
    exact key _ (by kernel_rfl))).mono fun e w' ⟨he,k,os,hw⟩=>⟨he,by
      subst hw
      exact ⟨rfl,rfl,rfl,by simp [Sort.grow,World.drewN],fun i hi=>by simp [Sort.grow,World.drewN,Array.getElem?_append,hi]⟩⟩
end Go.Proofs.YtblomnkamngnbaaGreatDoor
namespace Go.Proofs.YtblomnkamngnbaaGreatDoor
open Go.Sx
structure Tk where
  kind : Int
  text : List UInt8
  num : Int
  pos : Int
deriving DecidableEq
def signL : List UInt8:=[33,36,37,38,42,43,45,47,58,60,61,62,63,64,94,124]
def zDm (c : UInt8) : Bool:=signL.contains c
def zES (c : UInt8) : Bool:=decide (97 ≤ c.toNat ∧ c.toNat ≤ 122)
def zET (c : UInt8) : Bool:=decide (65 ≤ c.toNat ∧ c.toNat ≤ 90)
def zF2 (c : UInt8) : Bool:=decide (48 ≤ c.toNat ∧ c.toNat ≤ 57)
def zEu (c : UInt8) : Bool:=zES c || zET c || zF2 c || c == 95 || c == 39
def kws : List (List UInt8):=[[108,101,116],[114,101,99],[105,110],[102,117,110],[105,102],[116,104,101,110],[101,108,115,101],[109,97,116,99,104],[119,105,116,104],[101,110,100],[114,97,105,115,101],[116,114,121],[111,112,101,110],[116,121,112,101],[111,102],[105,110,102,105,120,108],[105,110,102,105,120,114],[105,110,102,105,120],[45,62],[61],[124],[40],[41],[95],[59,59]]
def zOG (s : List UInt8) : Bool:=kws.contains s
def zIr (p : UInt8 → Bool) : List UInt8 → Nat
  | []=>0
  | c :: s=>if p c then zIr p s + 1 else 0
end Go.Proofs.YtblomnkamngnbaaGreatDoor
namespace Go.Proofs.YtblomnkamngnbaaGreatDoor
open Go.Sx Go.RowKit
theorem zBW : zBG Tryz.prog 71 = some 1:=by kernel_rfl
theorem zC5 : (zB6 Tryz.prog 71).isSome = true:=by kernel_rfl
theorem zB1 : zB6 Tryz.prog 71 = some 9:=by kernel_rfl
theorem fo_0 : zBN Tryz.prog 68 0 = some 0:=by kernel_rfl
theorem fo_1 : zBN Tryz.prog 68 1 = some 1:=by kernel_rfl
theorem fo_2 : zBN Tryz.prog 68 2 = some 2:=by kernel_rfl
theorem fo_3 : zBN Tryz.prog 68 3 = some 3:=by kernel_rfl
theorem zKa : zBL Tryz.prog 9 = some (false,1):=by kernel_rfl
theorem zSO : zBL Tryz.prog 3 = some (false,1):=by kernel_rfl
theorem zOx : zBL Tryz.prog 66 = some (false,1):=by kernel_rfl
theorem zFC : zBL Tryz.prog 71 = some (false,1):=by kernel_rfl
theorem zCj : zBL Tryz.prog 26 = some (false,1):=by kernel_rfl
theorem zHx : zDK Tryz.prog 9 = some 1:=by kernel_rfl
theorem zF8 : zDF Tryz.prog 71 = some 16:=by kernel_rfl
theorem zDk : (zBo Tryz.prog 9).isSome = true:=by kernel_rfl
theorem zDl : zBo Tryz.prog 68 = some [.int .i64 0,.string ByteArray.empty,.int .i64 0,.int .i64 0]:=by kernel_rfl
theorem zSb : zAT Tryz.prog 87 = true:=by kernel_rfl
theorem zRg : zAT Tryz.prog 124 = true:=by kernel_rfl
theorem zNM : zAT Tryz.prog 88 = true:=by kernel_rfl
theorem zNQ : zAT Tryz.prog 89 = true:=by kernel_rfl
theorem zRp : zAT Tryz.prog 122 = true:=by kernel_rfl
theorem zRo : zAT Tryz.prog 86 = true:=by kernel_rfl
theorem zTL : zAT Tryz.prog 91 = true:=by kernel_rfl
theorem zSa : zAT Tryz.prog 85 = true:=by kernel_rfl
theorem zHl : zAT Tryz.prog 48 = true:=by kernel_rfl
theorem zLI : zAT Tryz.prog 84 = true:=by kernel_rfl
theorem zF5 : zAT Tryz.prog 123 = true:=by kernel_rfl
theorem zRq : zAT Tryz.prog 140 = true:=by kernel_rfl
theorem zPt : zAT Tryz.prog 141 = true:=by kernel_rfl
theorem zLJ : zAT Tryz.prog 125 = true:=by kernel_rfl
theorem zPn : zAT Tryz.prog 120 = true:=by kernel_rfl
theorem zTM : zAT Tryz.prog 80 = true:=by kernel_rfl
theorem zUa : zAT Tryz.prog 78 = true:=by kernel_rfl
theorem zNK : zAT Tryz.prog 79 = true:=by kernel_rfl
theorem zB8 : zAT Tryz.prog 42 = true:=by kernel_rfl
def Tk.av (n : Tk) : D:=.agg [.val (.int .i64 n.kind),.val (.string ⟨n.text.toArray⟩),.val (.int .i64 n.num),.val (.int .i64 n.pos)]
def strs (L : List (List UInt8)) : D:=.slice (L.map str)
theorem zJS (L : List (List UInt8)) : zB4 (L.map str) = L.map str:=by
  induction L with
  | nil=>rfl
  | cons x r ih=>exact congrArg (_ :: ·) ih
theorem zRK {w : World} {b : Nat} {L : List (List UInt8)} {e : TypeId} {t : Nat × Nat} {St : Stab} (hs : ∀ o,St b o) (hm : L.length ≤ maxLen) (h : w.heap[b]? = some (.cells (L.map fun l=>Value.string ⟨l.toArray⟩).toArray e t)) :
    RepD St w (.slice (some ⟨b,0,none⟩) L.length L.length) (strs L):=by
  refine .slice _ _ _ 1 (L.map str) (L.map fun l=>Value.string ⟨l.toArray⟩) (by simp) (Nat.le_refl _) hm (fun x hx=>?_) (by rw [zJS];simp) (fun u hu=>?_) (fun _=>⟨_,rfl,fun j u hu=>⟨hs _,?_⟩⟩) (fun j u d hu hd=>?_)
  · obtain ⟨l,_,rfl⟩:=List.mem_map.1 hx;rfl
  · obtain ⟨l,_,rfl⟩:=List.mem_map.1 hu;rfl
  · rw [Addr.add_lit,Nat.zero_add,cell_of_row w b j _ e t h];simpa using hu
  · rw [zJS,List.getElem?_map] at hd
    rw [List.getElem?_map] at hu
    cases hl : L[j]? with
    | none=>rw [hl] at hu;cases hu
    | some l=>rw [hl] at hu hd;cases hu;cases hd;exact .val _
def wordsT : List UInt8:=[108,101,116,32,114,101,99,32,105,110,32,102,117,110,32,105,102,32,116,104,101,110,32,101,108,115,101,32,109,97,116,99,104,32,119,105,116,104,32,101,110,100,32,114,97,105,115,101,32,116,114,121,32,111,112,101,110,32,116,121,112,101,32,111,102,32,105,110,102,105,120,108,32,105,110,102,105,120,114,32,105,110,102,105,120,32,45,62,32,61,32,124,32,40,32,41,32,95,32,59,59]
theorem zNr : Lib.fields wordsT = kws:=by decide +kernel
theorem zR5 {s : List UInt8} (h : s.all (fun b=>decide (b.toNat < 128)) = true) : ∀ (j : Nat) b,s[j]? = some b → b.toNat < 128:=fun _j b hb=>of_decide_eq_true (List.all_eq_true.1 h b (List.mem_of_getElem? hb))
theorem zQy : zAj Tryz.prog 141 [str wordsT] (strs kws):=by
  intro St w vs hst hgl hr
  obtain ⟨v,rfl,hv⟩ : ∃ v,vs = [v] ∧ v = .string ⟨wordsT.toArray⟩:=by
    have:=RepDs.vals (us:=[.string ⟨wordsT.toArray⟩]) hr
    exact ⟨_,this,rfl⟩
  subst hv
  refine (Tryz.strings_Fields_laid ⟨wordsT.toArray⟩ w (by decide) (zR5 (by decide)) ?_).mono fun e w' ⟨he,hw⟩=>?_
  · obtain ⟨_,_,_,e,t,h0⟩:=hgl
    have key : ∀ (o : Option Nat),o = some 1 → (o.bind fun g=>match w.heap[g]? with | some (.cells cs _ _)=>some cs | _=>none) = some (Lib.asciiSpaceTab.map fun z=>Value.int .u8 z).toArray:=by
      rintro _ rfl;simp only [Option.bind_some,h0]
    exact key _ (by kernel_rfl)
  · rw [show Lib.fields (⟨wordsT.toArray⟩ : ByteArray).data.toList = kws from zNr] at he hw
    subst hw
    refine ⟨_,fun b o=>St b o ∨ b = w.heap.size,he,zRK (fun _=>.inr rfl) (by decide) (t:=(0,0)) (by show (w.heap.push _)[w.heap.size]? = _;exact Array.getElem?_push_size),(Below.refl _ _).alloc (Nat.le_refl _) _,?_,fun b o h=>h.imp id (fun h=>by omega),fun b o h=>?_⟩
    · refine ⟨fun _ _ h=>.inl h,fun b o u hc hu=>?_,fun b hc=>?_⟩
      · exact (World.cell?_of_block (a:=⟨b,o,none⟩) (Below.heap_alloc _ _ _ (hst b o hc))).trans hu
      · exact Below.heap_alloc _ _ _ (hst b 0 (hc 0))
    · show b < (w.heap.push _).size
      rw [Array.size_push];rcases h with h | h
      · have:=hst b o h;omega
      · omega
theorem zLt (s : List UInt8) (c : UInt8) : zAj Tryz.prog 125 [str s,.val (.int .u8 c.toNat)] (i64 (Lib.indexByte s c)) :=
  zID (us:=[.string ⟨s.toArray⟩,.int .u8 c.toNat]) (fun _ _=>.val _) fun _ w _=>(Tryz.strings_IndexByte _ _ w).mono fun e w' ⟨he,hw⟩=>⟨by rw [he];simp,by subst hw;exact Below.refl _ _⟩
end Go.Proofs.YtblomnkamngnbaaGreatDoor
namespace Go.Proofs.YtblomnkamngnbaaGreatDoor
open Go.Sx
attribute [local irreducible] zAT Program.underlying Ylds zBA alex zBe zBP awp zAj zBZ zBk zBR zA8 zBV zBb zBf
theorem zNI {a b : Int} (h : a = b) : D.val (.int .i64 a) = i64 b:=by rw [h]
theorem tw1 : (2 : Int) ^ min (Int.toNat 1) IntKind.u64.bits = 2:=by decide
theorem tw2 : (2 : Int) ^ min (Int.toNat 1) IntKind.i64.bits = 2:=by decide
theorem zMk (n : Int) : zAj Tryz.prog 90 [i64 n] (i64 (W n)):=by
  refine zAd Tryz.func90 rfl Tryz.ntmps90 Tryz.results90 rfl ?_
  intro wb St0
  repeat' first | apply en_n|apply zAH|apply zAB|apply zAF|apply w0|(apply zNi;exact rfl;(first|with_reducible exact si64|with_reducible exact su64|with_reducible exact su8|with_reducible exact si32);(first|with_reducible exact ui64|with_reducible exact uu64|with_reducible exact uu8|with_reducible exact ui32))|(apply zVm;exact rfl;exact rfl;exact (by decide))|(apply zVl;exact rfl;exact rfl;exact (by decide))|apply ay (hd:=rfl)|exact zAE rfl|exact zAC rfl|apply zAM|apply zAJ|(apply res1;exact rfl)
  refine zNI ?_
  rw [tw1,tw2,Int.fdiv_eq_ediv_of_nonneg _ (by decide),zGB,zGB,zGC,W]
  omega
theorem zTj (n : Int) (h : 0 ≤ n) : zAj Tryz.prog 121 [u64 n] (i64 (W n)):=by
  refine zAd Tryz.func121 rfl Tryz.ntmps121 Tryz.results121 rfl ?_
  intro wb St0
  have e : n.tmod 9223372036854775808 = n % 9223372036854775808:=Int.tmod_eq_emod_of_nonneg h
  repeat' first | apply en_n|apply zAH|apply zAB|apply zAF|apply w0|(apply zNi;exact rfl;(first|with_reducible exact si64|with_reducible exact su64|with_reducible exact su8|with_reducible exact si32);(first|with_reducible exact ui64|with_reducible exact uu64|with_reducible exact uu8|with_reducible exact ui32))|(apply zSm (k:=.u64);exact rfl;exact rfl)|(apply zSm (k:=.i64);exact rfl;exact rfl)|(apply zMZ;exact rfl;exact rfl;exact (by decide))|apply ay (hd:=rfl)|exact zAE rfl|exact zAC rfl|exact zEU rfl rfl|(apply zAz;exact rfl;(intro hb);rotate_left;(intro hb);rotate_right)|apply zAP|apply zAM|apply en_r|apply zAJ|(apply res1;exact rfl)
  · refine zNI ?_
    rw [e] at hb ⊢
    rw [zGB,zGC,zGC,W]
    omega
  · refine zNI ?_
    rw [e] at hb ⊢
    rw [zGC,W]
    omega
theorem zMx (n : Int) : zAj Tryz.prog 81 [i64 n] (i64 (W n)):=by
  refine zAd Tryz.func81 rfl Tryz.ntmps81 Tryz.results81 rfl ?_
  intro wb St0
  repeat' first | apply en_n|apply zAH|apply zAB|apply zAF|apply w0|(apply zNi;exact rfl;(first|with_reducible exact si64|with_reducible exact su64|with_reducible exact su8|with_reducible exact si32);(first|with_reducible exact ui64|with_reducible exact uu64|with_reducible exact uu8|with_reducible exact ui32))|(refine zAV zTN (zTj _ (by rw [zGB];omega)) (zAX rfl zAG))|apply ay (hd:=rfl)|exact zAE rfl|exact zAC rfl|apply zAM|apply zAJ|(apply res1;exact rfl)
  refine zNI ?_
  rw [zGB,W,W]
  omega
end Go.Proofs.YtblomnkamngnbaaGreatDoor
namespace Go.Proofs.YtblomnkamngnbaaGreatDoor
open Go.Sx
attribute [local irreducible] zAT Program.underlying Ylds zBA alex zBe zBP awp zAj zBZ zBk zBR zA8 zBV zBb zBf
end Go.Proofs.YtblomnkamngnbaaGreatDoor
namespace Go.Proofs.YtblomnkamngnbaaGreatDoor
open Go.Sx
end Go.Proofs.YtblomnkamngnbaaGreatDoor
namespace Go.Proofs.YtblomnkamngnbaaGreatDoor
open Go.Sx
attribute [local irreducible] zAT Program.underlying Ylds zBA alex zBe zBP awp zAj zBZ zBk zBR zA8 zBV zBb zBf
end Go.Proofs.YtblomnkamngnbaaGreatDoor
namespace Go.Proofs.YtblomnkamngnbaaGreatDoor
open Go.Sx
attribute [local irreducible] zAT Program.underlying Ylds zBA alex zBe zBP awp zAj zBZ zBk zBR zA8 zBV zBb zBf
end Go.Proofs.YtblomnkamngnbaaGreatDoor
namespace Go.Sx
section
variable {P : Program} {η : List Ob} {σ : Sl} {dst : Option Nat} {ty : TypeId} {pos : String} {after : Array Edge} {gd : Option (Nat × Bool)} {t : TypeId} {x y : Operand}
theorem zTo {yt : TypeId} {a b : List UInt8} (hx : oval σ x = .d (str a)) (hy : oval σ y = .d (str b)) (h : ¬ a = b) : Ylds P η σ ⟨dst,.binOp .neq t x y yt,ty,pos,after,gd⟩ (.d (.val (.bool true))):=by
  have:=zGm (P:=P) (η:=η) (dst:=dst) (ty:=ty) (pos:=pos) (after:=after) (gd:=gd) (t:=t) (yt:=yt) hx hy;rwa [decide_eq_true h] at this
theorem zTp {yt : TypeId} {a b : List UInt8} (hx : oval σ x = .d (str a)) (hy : oval σ y = .d (str b)) (h : a = b) : Ylds P η σ ⟨dst,.binOp .neq t x y yt,ty,pos,after,gd⟩ (.d (.val (.bool false))):=by
  have:=zGm (P:=P) (η:=η) (dst:=dst) (ty:=ty) (pos:=pos) (after:=after) (gd:=gd) (t:=t) (yt:=yt) hx hy;rwa [decide_eq_false (fun c=>c h)] at this
end
end Go.Sx
