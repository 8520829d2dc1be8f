/- Parts. -/
import Derived.Lib.CutLaws
import Derived.Test.YtjcgiiedaccjpaaGreatDoorPAG
set_option maxHeartbeats 16000000
namespace Go.Proofs.YtjcgiiedaccjpaaGreatDoor
open _root_.Go.Proofs.Tryz
open Go.Sx
theorem zAe: zBU prog 23=some 4:=by kernel_rfl
theorem zBK: zBU prog 103=some 1:=by kernel_rfl
theorem zB7: zBU prog 65=some 1:=by kernel_rfl
theorem zA5: (zCB prog 23).isSome=true:=by kernel_rfl
theorem zCT: (zCB prog 103).isSome=true:=by kernel_rfl
theorem zCL: (zCB prog 65).isSome=true:=by kernel_rfl
theorem zCn: zCB prog 23=some 47:=by kernel_rfl
theorem zEP: zCB prog 103=some 3:=by kernel_rfl
theorem zE3: zCB prog 65=some 23:=by kernel_rfl
theorem fn_0: zA7 prog 47 0=some 0:=by kernel_rfl
theorem fn_1: zA7 prog 47 1=some 1:=by kernel_rfl
theorem fn_2: zA7 prog 47 2=some 2:=by kernel_rfl
theorem fn_3: zA7 prog 47 3=some 3:=by kernel_rfl
theorem zAa: zBh prog 3=some (false,1):=by kernel_rfl
theorem zAm: zBh prog 43=some (false,1):=by kernel_rfl
theorem zBi: zBh prog 2=some (false,1):=by kernel_rfl
theorem zAf: zBh prog 9=some (false,1):=by kernel_rfl
theorem zIO: zBh prog 4=some (false,1):=by kernel_rfl
theorem zAx: zBh prog 23=some (false,1):=by kernel_rfl
theorem zAh: zBh prog 47=some (true,4):=by kernel_rfl
theorem zHv: zDf prog 47=some 4:=by kernel_rfl
theorem zNW: zDf prog 3=some 1:=by kernel_rfl
theorem zWU: zDf prog 23=some 1:=by kernel_rfl
theorem zGM: zDZ prog 23=some 40:=by kernel_rfl
theorem zLJ: zDZ prog 103=some 8:=by kernel_rfl
theorem zVt: zDZ prog 65=some 24:=by kernel_rfl
theorem zFn: (zBv prog 47).isSome=true:=by kernel_rfl
theorem zKG: (zBv prog 3).isSome=true:=by kernel_rfl
theorem zHS: (zBv prog 23).isSome=true:=by kernel_rfl
theorem zA2: zBv prog 47=some [.int .i64 0,.string ByteArray.empty,.int .i64 0,.int .i64 0]:=by kernel_rfl
theorem zZG: zBv prog 3=some [.int .i64 0]:=by kernel_rfl
theorem zZH: zWW prog 47=some (.agg [.val (.int .i64 0),.val (.string ByteArray.empty),.val (.int .i64 0),.val (.int .i64 0)]):=by kernel_rfl
theorem zL7: zAQ prog 115=true:=by kernel_rfl
theorem zHd: zAQ prog 110=true:=by kernel_rfl
theorem zC7: zAQ prog 46=true:=by kernel_rfl
theorem zbe: zAQ prog 129=true:=by kernel_rfl
theorem zUq: zAQ prog 21=true:=by kernel_rfl
theorem zOT: zAQ prog 172=true:=by kernel_rfl
theorem zUi: zAQ prog 203=true:=by kernel_rfl
theorem zD8: zAQ prog 80=true:=by kernel_rfl
theorem zFv: zAQ prog 20=true:=by kernel_rfl
theorem zIk: zAQ prog 52=true:=by kernel_rfl
theorem zaI: zAQ prog 32=true:=by kernel_rfl
theorem zYb: prog.underlying 3=some (.int .i64):=by kernel_rfl
structure Nd where
 kind:Int
 text:List UInt8
 num:Int
 kids:Int
deriving DecidableEq
def Nd.av(n:Nd): D:=.agg [.val (.int .i64 n.kind),.val (.string ⟨n.text.toArray⟩),.val (.int .i64 n.num),.val (.int .i64 n.kids)]
def zAu(L:List Nd): D:=.slice (L.map Nd.av)
def ival(n:Int): D:=.val (.int .i64 n)
def zBq(L:List Int): D:=.slice (L.map ival)
def zC0(LL:List (List Nd)): D:=.slice (LL.map zAu)
def zF5(n:Nat): List Nd->Int->Int->Int
 |[],_,_=>-1
 |x::r,o,a=>if x.kids<0\/x.kids>n then -1 else if o+(x.kids-1)>0 then zF5 n r (o+(x.kids-1)) (a+1)else a+1
def endF(L:List Nd)(a:Int): Int:=if a<0 then -1 else zF5 L.length (L.drop a.toNat) 1 a
theorem zGi{L:List Nd}{k:Nat}(h:L.length<=k)(n:Nat)(o a:Int): zF5 n (L.drop k) o a = -1:=by
 rw[qAa h];rfl
theorem zE6{L:List Nd}{k:Nat}{x:Nd}(h:L[k]?=some x)(n:Nat)(o a:Int): zF5 n (L.drop k) o a=if x.kids<0\/x.kids>n then -1 else if o+(x.kids-1)>0 then zF5 n (L.drop (k+1)) (o+(x.kids-1)) (a+1)else a+1:=by
 obtain⟨hk,rfl⟩:=qAA.1 h
 rw[qAW hk];rfl
attribute [local irreducible] Ylds zBJ alex zBk zBZ awp zAX FCall zBo zBR zBX zBb zBD zBd zBj zBn
theorem zMS(L:List Nd)(at_:Int)(hL:L.length<=2000000): zAX prog 115 [zAu L,i64 at_] (i64 (endF L at_)):=by
 refine zAc func115 rfl ntmps115 results115 rfl ?_
 intro wb St0
 repeat' first|apply en_n|apply zAE|apply zAA|apply zAD|apply w0|refine ayA rfl ?_
 refine zQB (α:=Int×Nat) 0 rfl rfl (fun p=>zF5 L.length (L.drop p.2) p.1 p.2=endF L at_/\1<=p.1/\p.1<=1+p.2*2000000) (fun p=>[(0,.d (zAu L)),(1,.d (i64 p.2)),(5,.d (i64 p.1))]) (fun _=>[]) (fun p=>L.length-p.2) ?_ ?_
 ·skip
  repeat' first|apply en_n|apply zAE|apply zAA|apply zAD|apply w0|refine ayA rfl ?_|apply ay (hd:=rfl)|exact zCt rfl rfl|(apply zA3;exact rfl;all_goals intro hb)|apply zAM|apply zAN|apply en_r|apply ej_r|apply zAO|refine res1 rfl ?_
  ·rw[endF,if_pos hb]
  ·refine⟨(1,at_.toNat),⟨?_,by omega,by simp only;omega⟩,zAV (Le_cons rfl (Le_d rfl ?_ (Le_all rfl))) zAW rfl rfl⟩
   ·rw[endF,if_neg hb];simp only;rw[qBj oM]
   ·simp only;rw[qBj oM]
 ·rintro⟨o,k⟩ ⟨h1,h2,h3⟩
  dsimp only at h1 h2 h3 ⊢
  repeat' first|apply en_n|apply zAE|apply zAA|apply zAD|apply w0|refine aJA ?_|(apply aI (hd:=rfl);(first|exact zAr rfl|exact Co_bb rfl rfl rfl|exact Co_nn rfl);exact rfl;(with_reducible exact zAe);exact fun _=>rfl;rotate_left;intro v hv;rotate_right)|refine ayA rfl ?_|apply ay (hd:=rfl)|exact zCt rfl rfl|exact zF4 rfl rfl|exact zFU rfl rfl|refine zBN rfl rfl ?_|refine zI1 rfl rfl ?_|refine w1 rfl rfl ?_|refine k0 (hd:=rfl) rfl rfl ?_|(apply gD;exact rfl;exact rfl;all_goals intro hb)|(apply zA3;exact rfl;all_goals intro hb)|refine zAJ rfl ?_|apply zAM|apply zAN|apply zYA|apply en_r|apply en_g|apply ej_r|apply ej_g|apply zAO|refine res1 rfl ?_
  all_goals try omega
  ·rw[<-h1,zGi oM]
  ·rw[<-h1,zE6 (k:=k) hv,if_pos oM]
  ·rw[<-h1,zE6 (k:=k) hv,if_pos oM]
  ·rw[zE6 (k:=k) hv,if_neg oM,if_pos oM]at h1
   refine⟨(o+(v.kids-1),k+1),⟨h1,by simp only;omega,by simp only;omega⟩,?_,zAV (Le_all rfl) zAW rfl rfl⟩
   simp only;omega
  ·rw[<-h1,zE6 (k:=k) hv,if_neg oM,if_neg oM]
end Go.Proofs.YtjcgiiedaccjpaaGreatDoor
namespace Go.Proofs.YtjcgiiedaccjpaaGreatDoor
open _root_.Go.Proofs.Tryz
open Go.Sx
attribute [local irreducible] zAQ Program.underlying Ylds zBJ alex zBk zBZ awp zAX FCall zBo zBb zBD zBd zBj zBn
theorem zFF{a b:Int}(h:a=b): D.val (.int .i64 a)=i64 b:=by rw[h]
theorem zNn{a b:Int}(h:a=b): D.val (.int .u64 a)=u64 b:=by rw[h]
theorem tw1: (2:Int) ^ min (Int.toNat 1) IntKind.u64.bits=2:=by decide
theorem tw2: (2:Int) ^ min (Int.toNat 1) IntKind.i64.bits=2:=by decide
theorem zF7(n:Int): zAX prog 149 [i64 n] (i64 (W n)):=by
 refine zAc func149 rfl ntmps149 results149 rfl ?_
 intro wb St0
 repeat' first|apply en_n|apply zAE|apply zAA|apply zAD|apply w0|(apply zGm;exact rfl;(first|with_reducible exact si64|with_reducible exact su64|with_reducible exact su8|with_reducible exact si32);(first|with_reducible exact ui64|with_reducible exact uu64|with_reducible exact uu8|with_reducible exact ui32))|(apply zdI;exact rfl;exact rfl;exact dC)|(apply zdH;exact rfl;exact rfl;exact dC)|refine ayA rfl ?_|apply ay (hd:=rfl)|apply zAN|apply zAO|refine res1 rfl ?_
 refine zFF ?_
 rw[tw1,tw2,Int.fdiv_eq_ediv_of_nonneg _ dC,zCD,zCD,zD6,W]
 omega
theorem zLM(n:Int)(h:0<=n): zAX prog 187 [u64 n] (i64 (W n)):=by
 refine zAc func187 rfl ntmps187 results187 rfl ?_
 intro wb St0
 have e:n.tmod 9223372036854775808=n%9223372036854775808:=Int.tmod_eq_emod_of_nonneg h
 repeat' first|apply en_n|apply zAE|apply zAA|apply zAD|apply w0|(apply zGm;exact rfl;(first|with_reducible exact si64|with_reducible exact su64|with_reducible exact su8|with_reducible exact si32);(first|with_reducible exact ui64|with_reducible exact uu64|with_reducible exact uu8|with_reducible exact ui32))|(apply zPG (k:=.u64);exact rfl;exact rfl)|(apply zPG (k:=.i64);exact rfl;exact rfl)|(apply zLa;exact rfl;exact rfl;exact dC)|refine ayA rfl ?_|apply ay (hd:=rfl)|exact zFU rfl rfl|(apply zA3;exact rfl;all_goals intro hb)|apply zAM|apply zAN|apply en_r|apply zAO|refine res1 rfl ?_
 ·refine zFF ?_
  rw[e]at hb ⊢
  rw[zCD,zD6,zD6,W]
  omega
 ·refine zFF ?_
  rw[e]at hb ⊢
  rw[zD6,W]
  omega
theorem zIX(n:Int): zAX prog 161 [i64 n] (i64 (W n)):=by
 refine zAc func161 rfl ntmps161 results161 rfl ?_
 intro wb St0
 repeat' first|apply en_n|apply zAE|apply zAA|apply zAD|apply w0|(apply zGm;exact rfl;(first|with_reducible exact si64|with_reducible exact su64|with_reducible exact su8|with_reducible exact si32);(first|with_reducible exact ui64|with_reducible exact uu64|with_reducible exact uu8|with_reducible exact ui32))|(refine zAP zKz (zLM _ (by rw[zCD];omega)) (CoLA rfl))|refine ayA rfl ?_|apply ay (hd:=rfl)|apply zAN|apply zAO|refine res1 rfl ?_
 refine zFF ?_
 rw[zCD,W,W]
 omega
theorem zZo(a b:Int): zAX prog 206 [i64 a,i64 b] (i64 (W (a+b))):=by
 refine zAc func206 rfl ntmps206 results206 rfl ?_
 intro wb St0
 repeat' first|apply en_n|apply zAE|apply zAA|apply zAD|apply w0|(apply zGm;exact rfl;(first|with_reducible exact si64|with_reducible exact su64|with_reducible exact su8|with_reducible exact si32);(first|with_reducible exact ui64|with_reducible exact uu64|with_reducible exact uu8|with_reducible exact ui32))|(apply zRu (k:=.u64);exact rfl;exact rfl)|(refine zAP zKz (zLM _ (by rw[zCD];omega)) (CoLA rfl))|refine ayA rfl ?_|apply ay (hd:=rfl)|apply zAN|apply zAO|refine res1 rfl ?_
 refine zFF ?_
 rw[zCD,zCD,zCD,W,W]
 omega
theorem zZi(a b:Int): zAX prog 207 [i64 a,i64 b] (i64 (W (a-b))):=by
 refine zAc func207 rfl ntmps207 results207 rfl ?_
 intro wb St0
 repeat' first|apply en_n|apply zAE|apply zAA|apply zAD|apply w0|(apply zGm;exact rfl;(first|with_reducible exact si64|with_reducible exact su64|with_reducible exact su8|with_reducible exact si32);(first|with_reducible exact ui64|with_reducible exact uu64|with_reducible exact uu8|with_reducible exact ui32))|(apply zPG (k:=.u64);exact rfl;exact rfl)|(refine zAP zKz (zLM _ (by rw[zCD];omega)) (CoLA rfl))|refine ayA rfl ?_|apply ay (hd:=rfl)|apply zAN|apply zAO|refine res1 rfl ?_
 refine zFF ?_
 rw[zCD,zCD,zCD,W,W]
 omega
theorem zZj(a b:Int): zAX prog 208 [i64 a,i64 b] (i64 (W (a*b))):=by
 refine zAc func208 rfl ntmps208 results208 rfl ?_
 intro wb St0
 repeat' first|apply en_n|apply zAE|apply zAA|apply zAD|apply w0|(apply zGm;exact rfl;(first|with_reducible exact si64|with_reducible exact su64|with_reducible exact su8|with_reducible exact si32);(first|with_reducible exact ui64|with_reducible exact uu64|with_reducible exact uu8|with_reducible exact ui32))|(apply zY8 (k:=.u64);exact rfl;exact rfl)|(refine zAP zKz (zLM _ (by rw[zCD];omega)) (CoLA rfl))|refine ayA rfl ?_|apply ay (hd:=rfl)|apply zAN|apply zAO|refine res1 rfl ?_
 refine zFF ?_
 rw[zCD,zCD,zCD,<-Int.mul_emod,W,W]
 omega
theorem zZV(a b:Int): zAX prog 90 [i64 a,i64 b] (i64 (W (a-b))):=by
 refine zAc func90 rfl ntmps90 results90 rfl ?_
 intro wb St0
 repeat' first|apply en_n|apply zAE|apply zAA|apply zAD|apply w0|(apply zGm;exact rfl;(first|with_reducible exact si64|with_reducible exact su64|with_reducible exact su8|with_reducible exact si32);(first|with_reducible exact ui64|with_reducible exact uu64|with_reducible exact uu8|with_reducible exact ui32))|(apply zPG (k:=.u64);exact rfl;exact rfl)|exact ycA zGF (zF7 _)|refine ayA rfl ?_|apply ay (hd:=rfl)|apply zAN|apply zAO|refine res1 rfl ?_
 refine zFF ?_
 rw[zCD,zCD,zCD,zD6,W,W]
 omega
theorem zZX(a b:Int): zAX prog 92 [i64 a,i64 b] (i64 (W (a*b))):=by
 refine zAc func92 rfl ntmps92 results92 rfl ?_
 intro wb St0
 repeat' first|apply en_n|apply zAE|apply zAA|apply zAD|apply w0|(apply zGm;exact rfl;(first|with_reducible exact si64|with_reducible exact su64|with_reducible exact su8|with_reducible exact si32);(first|with_reducible exact ui64|with_reducible exact uu64|with_reducible exact uu8|with_reducible exact ui32))|(apply zY8 (k:=.u64);exact rfl;exact rfl)|exact ycA zGF (zF7 _)|refine ayA rfl ?_|apply ay (hd:=rfl)|apply zAN|apply zAO|refine res1 rfl ?_
 refine zFF ?_
 rw[zCD,zCD,zCD,<-Int.mul_emod,zD6,W,W]
 omega
theorem zWg{L:List Int}{i:Nat}{v:Int}(h:L[i]?=some v): (L.take (i+1)).sum=(L.take i).sum+v:=by
 rw[qAu,h,List.sum_append];simp
theorem zZU(L:List Int)(hL:L.length<=1000000): zAX prog 148 [ints L] (i64 (W L.sum)):=by
 refine zAc func148 rfl ntmps148 results148 rfl ?_
 intro wb St0
 repeat' first|apply en_n|apply zAE|apply zAA|apply zAD|apply w0|refine ayA rfl ?_|apply zAH
 refine zAt (α:=Nat) (fun i=>i<=L.length) (fun i=>[(3,.d (u64 ((L.take i).sum%18446744073709551616))),(6,.d (ints L)),(7,.d (i64 (L.length:Int))),(8,.d (i64 (i:Int)))]) (fun _=>[]) (fun i=>L.length-i) 0 (qAO _)
   (zAV (Le_d rfl sI (Le_all rfl)) zAW rfl rfl) ?_
 rintro i hi
 repeat' first|apply en_n|apply zAE|apply zAA|apply zAD|apply w0|(apply zGm;exact rfl;(first|with_reducible exact si64|with_reducible exact su64|with_reducible exact su8|with_reducible exact si32);(first|with_reducible exact ui64|with_reducible exact uu64|with_reducible exact uu8|with_reducible exact ui32))|(apply zRu (k:=.u64);exact rfl;exact rfl)|exact ycA zGF (zF7 _)|(apply aI (hd:=rfl);(first|exact zAr rfl|exact Co_bb rfl rfl rfl|exact Co_nn rfl);exact rfl;(with_reducible exact zVR);exact fun _=>rfl;rotate_left;intro v hv;rotate_right)|refine ayA rfl ?_|apply ay (hd:=rfl)|exact zCt rfl rfl|refine zBN rfl rfl ?_|(apply zA3;exact rfl;all_goals intro hb)|apply zAH|apply zAM|apply zAN|apply zAz|apply en_e|apply eb_n|apply eb_e|apply zAO|refine res1 rfl ?_
 ·omega
 ·omega
 ·refine⟨i+1,by omega,by omega,zAV (Le_d rfl (zNn ?_).symm (Le_all rfl)) zAW rfl rfl⟩
  rw[zWg (i:=i) hv,zCD,zCD]
  omega
 ·refine zFF ?_
  have:L.take i=L:=qAe oM
  rw[this,zD6,W,W]
  omega
theorem zZY(a b:Int): zAX prog 88 [i64 a,i64 b] (i64 (W (a+b))):=by
 refine zAc func88 rfl ntmps88 results88 rfl ?_
 intro wb St0
 repeat' first|apply en_n|apply zAE|apply zAA|apply zAD|apply w0|exact ycA zZ5 (zZU [a,b] sI)|refine ayA rfl ?_|apply ay (hd:=rfl)|(apply zWK;(with_reducible exact zXm);(with_reducible exact zVR);(with_reducible exact za6);exact rfl;exact rfl;(first|exact zAL rfl (zAL rfl zAF)|exact zEH rfl rfl rfl (zEH rfl rfl rfl zAF));exact rfl)|apply zAN|apply zAO|refine res1 rfl ?_
 refine zFF ?_
 simp
theorem zPd(n:Int)(h:-4611686018427387904<=n/\n<=4611686018427387903): zAX prog 205 [i64 n] (u64 (n.natAbs:Int)):=by
 refine zAc func205 rfl ntmps205 results205 rfl ?_
 intro wb St0
 repeat' first|apply en_n|apply zAE|apply zAA|apply zAD|apply w0|(apply zGm;exact rfl;(first|with_reducible exact si64|with_reducible exact su64|with_reducible exact su8|with_reducible exact si32);(first|with_reducible exact ui64|with_reducible exact uu64|with_reducible exact uu8|with_reducible exact ui32))|exact zcO rfl|refine ayA rfl ?_|apply ay (hd:=rfl)|exact zCt rfl rfl|(apply zA3;exact rfl;all_goals intro hb)|apply zAM|apply zAN|apply en_r|apply zAO|refine res1 rfl ?_
 ·refine zNn ?_
  rw[zCD,zD6];omega
 ·refine zNn ?_
  rw[zCD];omega
theorem zcV(x:Int): W (IntKind.u64.wrap x)=W x:=by rw[zCD,W,W];omega
theorem zLB{k:Nat}(h:k<10): (UInt8.ofNat (48+k)).toNat=48+k:=by
 rw[UInt8.toNat_ofNat'];omega
theorem zXz(u:Nat): ∀d∈Lib.decDigits u,48<=d.toNat/\d.toNat<=57:=by
 induction u using Nat.strongRecOn with
 |_ u ih =>
  intro d hd
  rw[Lib.decDigits]at hd
  split at hd
  ·rename_i h
   rw[qAs]at hd
   rw[hd,zLB h];omega
  ·rename_i h
   rcases qAm.1 hd with hd|hd
   ·exact ih (u / 10) oM d hd
   ·rw[qAs]at hd
    rw[hd,zLB (Nat.mod_lt _ dC)];omega
theorem zX0(u:Nat)(h:u<18446744073709551616): (Lib.decDigits u).length<=20:=by
 rw[Lib.decDigits_length];exact Lib.nDigits_le20 u h
def shw(n:Int): List UInt8:=if n<0 then 126::Lib.decDigits n.natAbs else Lib.decDigits n.natAbs
theorem zbH(n:Int): Lib.replace (Lib.itoa n) [45] [126] 1=shw n:=by
 rw[Lib.replace,if_neg dC]
 unfold Lib.itoa shw
 split
 ·rename_i h
  have h1:Lib.replaceNum (45::Lib.decDigits n.natAbs) [45] 1=1:=by
   rw[Lib.replaceNum,Lib.count_cons_eq,if_neg oM];rfl
  rw[h1,Lib.replaceK_hit [45] [126] 0 _ 0 (by rw[Lib.index];rfl)]
  simp[Lib.replaceK]
 ·rename_i h
  have h2:Lib.count (Lib.decDigits n.toNat) [45]=0:=by
   rw[Lib.count_one,List.count_eq_zero]
   intro hm
   have:=zXz _ _ hm
   exact absurd this.1 dC
  have h1:Lib.replaceNum (Lib.decDigits n.toNat) [45] 1=0:=by
   rw[Lib.replaceNum,h2,if_pos oM]
  rw[h1,Lib.replaceK,show n.toNat=n.natAbs by omega]
theorem zNq{a b:List UInt8}(h:a=b): str a=str b:=by rw[h]
theorem zWc(n:Int): zAX prog 107 [i64 n] (str (shw (W n))):=by
 have hw:=W_bd n
 refine zAc func107 rfl ntmps107 results107 rfl ?_
 intro wb St0
 repeat' first|apply en_n|apply zAE|apply zAA|apply zAD|apply w0|exact ycA zGF (zF7 _)|exact ycA zOZ (zPM (W n) oM oM)|exact ycA zSX (zS8 (Lib.itoa (W n)) [45] [126] 1 dC (qAx (Lib.itoa_length_le (W n) oM oM) dC) dC)|refine ayA rfl ?_|apply ay (hd:=rfl)|apply zAN|apply zAO|refine res1 rfl ?_
 exact zNq (zbH _)
theorem zNv(U m:Nat)(s:List UInt8)(hi:(s=[]/\m=U)\/(s≠[]/\m=0/\s=Lib.decDigits U)\/(s≠[]/\0<m/\m<=U/\Lib.decDigits m++s=Lib.decDigits U))(hc:s=[]\/0<m):
  (UInt8.ofNat (48+m%10)::s≠[]/\m / 10=0/\UInt8.ofNat (48+m%10)::s=Lib.decDigits U)\/
   (UInt8.ofNat (48+m%10)::s≠[]/\0<m / 10/\m / 10<=U/\Lib.decDigits (m / 10)++UInt8.ofNat (48+m%10)::s=Lib.decDigits U):=by
 have e:Lib.decDigits m++s=Lib.decDigits U/\m<=U:=by
  rcases hi with⟨h1,h2⟩|⟨h1,h2,_⟩|⟨_,_,h3,h4⟩
  ·rw[h1,h2];simp
  ·rcases hc with hc|hc
   ·exact absurd hc h1
   ·omega
  ·exact⟨h4,h3⟩
 obtain⟨e,hm⟩:=e
 by_cases h10:m<10
 ·rw[Lib.decDigits,dif_pos h10]at e
  refine .inl ⟨by simp,by omega,?_⟩
  rw[show m%10=m by omega,<-e];rfl
 ·rw[Lib.decDigits,dif_neg h10]at e
  refine .inr ⟨by simp,by omega,by omega,?_⟩
  rw[<-e,qAY];rfl
def smu(p:Nat×List UInt8): Nat:=match p.2 with | []=>p.1+1|_=>p.1
theorem zTi(m:Nat)(c:UInt8)(s:List UInt8)(hc:s=[]\/0<m): smu (m / 10,c::s)<smu (m,s):=by
 cases s with
 |nil=>show m / 10<m+1;omega
 |cons x r =>
  show m / 10<m
  rcases hc with hc|hc
  ·cases hc
  ·omega
theorem zN0(m:Nat): IntKind.u8.wrap (IntKind.u64.wrap (48+(m:Int).tmod 10))=((48+m%10:Nat):Int):=by
 rw[show (m:Int).tmod 10=((m%10:Nat):Int)from rfl,zTI,zCD];omega
theorem zQm(m:Nat)(h:m<18446744073709551616): IntKind.u64.wrap ((m:Int).tdiv 10)=((m / 10:Nat):Int):=by
 rw[show (m:Int).tdiv 10=((m / 10:Nat):Int)from rfl,zCD];omega
theorem zWq(n:Int): zAX prog 175 [i64 n] (str (shw (W n))):=by
 have hw:=W_bd n
 refine zAc func175 rfl ntmps175 results175 rfl ?_
 intro wb St0
 have hlen:=zX0 (W n).natAbs oM
 repeat' first|apply en_n|apply zAE|apply zAA|apply zAD|apply w0|exact ycA zIj (zIX _)|exact ycA zPt (zPd _ (W_bd _))|refine ayA rfl ?_|apply ay (hd:=rfl)|apply zAH
 refine zAt (α:=Nat×List UInt8) (fun p=>(p.2=[]/\p.1=(W n).natAbs)\/(p.2≠[]/\p.1=0/\p.2=Lib.decDigits (W n).natAbs)\/(p.2≠[]/\0<p.1/\p.1<=(W n).natAbs/\Lib.decDigits p.1++p.2=Lib.decDigits (W n).natAbs))
   (fun p=>[(0,.d (i64 (W n))),(3,.d (str p.2)),(4,.d (u64 (p.1:Int)))]) (fun _=>[]) smu ((W n).natAbs,[]) (.inl ⟨rfl,rfl⟩)
   (zAV (Le_all rfl) zAW rfl rfl) ?_
 rintro⟨m,s⟩ hi
 dsimp only at hi ⊢
 have hmb:m<=(W n).natAbs:=by omega
 have hsl:s.length<=20:=by
  rcases hi with⟨h1,_⟩|⟨_,_,h1⟩|⟨_,_,_,h1⟩
  ·rw[h1];simp
  ·rw[h1];exact hlen
  ·have:=congrArg List.length h1
   rw[qAH]at this;omega
 repeat' first|apply en_n|apply zAE|apply zAA|apply zAD|apply w0|exact zHt rfl rfl|(apply zdM (ns:=[_]);exact rfl;with_reducible exact uu8s;with_reducible exact uu8;with_reducible exact ustr;exact sI)|(apply zQJ;exact rfl;exact rfl;exact pAJ)|(apply zLa;exact rfl;exact rfl;exact dC)|(apply zYQ;exact rfl;exact rfl;exact dC)|(apply zGm;exact rfl;(first|with_reducible exact si64|with_reducible exact su64|with_reducible exact su8|with_reducible exact si32);(first|with_reducible exact ui64|with_reducible exact uu64|with_reducible exact uu8|with_reducible exact ui32))|(apply zRu (k:=.u64);exact rfl;exact rfl)|refine ayA rfl ?_|refine ayL rfl ?_|apply ay (hd:=rfl)|exact zCt rfl rfl|exact zF4 rfl rfl|refine w1 rfl rfl ?_|refine k0 (hd:=rfl) rfl rfl ?_|(apply gD;exact rfl;exact rfl;all_goals intro hb)|(apply zA3;exact rfl;all_goals intro hb)|refine zAJ rfl ?_|apply zAH|apply zAM|apply zAN|apply zAz|apply en_r|apply en_e|apply eb_n|apply eb_e|apply zAO|refine res1 rfl ?_
 ·refine⟨(m / 10,UInt8.ofNat (48+m%10)::s),.inr (zNv _ m s hi (.inl hb)),zTi m _ s (.inl hb),zAV (Le_cons rfl (Le_d rfl (zNq ?_) (Le_d rfl (zNn (zQm m oM)).symm Le_nil))) zAW rfl rfl⟩
  rw[zN0];rfl
 ·have hm:0<m:=by omega
  refine⟨(m / 10,UInt8.ofNat (48+m%10)::s),.inr (zNv _ m s hi (.inr hm)),zTi m _ s (.inr hm),zAV (Le_cons rfl (Le_d rfl (zNq ?_) (Le_d rfl (zNn (zQm m oM)).symm Le_nil))) zAW rfl rfl⟩
  rw[zN0];rfl
 ·rename_i h1 h2
  have e:s=Lib.decDigits (W n).natAbs:=by
   rcases hi with⟨h3,_⟩|⟨_,_,h3⟩|⟨_,h3,_⟩
   ·exact absurd h3 h1
   ·exact h3
   ·omega
  refine zNq ?_
  rw[shw,if_pos hb,e];rfl
 ·rename_i h1 h2
  have e:s=Lib.decDigits (W n).natAbs:=by
   rcases hi with⟨h3,_⟩|⟨_,_,h3⟩|⟨_,h3,_⟩
   ·exact absurd h3 h1
   ·exact h3
   ·omega
  refine zNq ?_
  rw[shw,if_neg hb,e]
end Go.Proofs.YtjcgiiedaccjpaaGreatDoor
namespace Go.Proofs.YtjcgiiedaccjpaaGreatDoor
open Go.Sx
attribute [local irreducible] zAQ Program.underlying Ylds zBJ alex zBk zBZ awp zAX FCall zBo zBb zBD zBd zBj zBn
