/- Texts of this claim, merged: VmBM. -/
import Derived.Test.YtcagoomibpcdlaaGreatDoorMAX
namespace Go.Proofs.YtcagoomibpcdlaaGreatDoor
open Go.Sx Go.Vm
attribute [local irreducible] zAQ Program.underlying Ylds zBD alex zCA zBi awp zAp zCI zCH zAW zBw zA5 zB0 zBp zBF zBv zB9 zCE zBn zBm zBs
theorem aHM{N d:Nat}{w0:World}{St0:Stab}{X:Nat→Prop}{ops:Array Oper}{rest:List Oper}{K:Sl→List Ob→Prop}{σ:Sl}{ty:TypeId}{pos:String}{after:Array Edge}{gd:Option (Nat×Bool)}{f:FuncId}{args:List Operand}{ts:Array TypeId}{avs:List SV}{m:Img}{r:Raw}{now:List Nat}{res:SV}{fx:Nat→Option Nat}
  (hb:zAQ Tryz.prog f=true) (hc:zAW Tryz.prog f avs (HO r.size r.now r.oth r.beg) res (HO r.size now r.oth r.beg)) (ha:SArgs σ [1,2,3,4] args avs) (hd:Nat.blt d N=true) (hba:avs.all (SV.bel 4)=true)
  (h:alex ⟨Tryz.prog,N,w0,St0,X,0⟩ false ops rest K ((d,res.ren [1,2,3,4])::zDl [2,3,4] [1,2,3,4] σ) (MA fx m { r with now:=now })) :
  zBD ⟨Tryz.prog,N,w0,St0,X,0⟩ false ops ⟨some d,.call ⟨.value (.func f),args.toArray,ts⟩,ty,pos,after,gd⟩ rest K σ (MA fx m r):=by
 have e:zDH (zEL (zBa [1,2,3,4] (HO r.size r.now r.oth r.beg)) [1,2,3,4] (MA fx m r)) [1,2,3,4] ((HO r.size now r.oth r.beg).map (Ob.ren [1,2,3,4]))=MA fx m { r with now:=now }:=rfl
 have hh:=(congrArg (alex ⟨Tryz.prog,N,w0,St0,X,0⟩ false ops rest K ((d,res.ren [1,2,3,4])::zDl [2,3,4] [1,2,3,4] σ)) e).mpr h
 refine zGI (C:=⟨Tryz.prog,N,w0,St0,X,0⟩) (η:=MA fx m r) [1,2,3,4] hb hc ha ?_ hd (by decide) ?_ ?_ ?_ hba ?_ ?_ hh
 ·rfl
 ·rfl
 ·rfl
 ·rfl
 ·rfl
 ·rfl
structure Arg(r:Raw)(n u:Nat): Prop where
 len:n≤r.stk.length
 pos:1≤n
 at_:r.stk[r.stk.length-1-(n-1)]?=some u
 big:r.stk.length≤1048576
theorem zQS(m:Img)(r:Raw){u:Nat}(ht:Arg r 1 u)(hO:zAW Tryz.prog 52 [.ptr 0 0,.d (w64 u),.d (i64 4)] (MX m r) (.d (bl false)) (MX m { r with fin:=4 })):
  zAW Tryz.prog 97 [.ptr 0 0,.d (i64 8)] (MX m r) .top (MX m { r with fin:=4 }):=by
 obtain⟨hn,_,hu,hl⟩:=ht
 have hTk:zAp Tryz.prog 122 [i64 8] (i64 1):=zEk 8
 have hT:=zBl m r (k:=0) (by omega) hu hl
 refine zAy Tryz.func97 rfl Tryz.ntmps97 Tryz.results97 rfl ?_
 intro wb St0 X fx
 repeat' first|apply en_n|apply zAK|apply zAA|apply zAF|apply w0|(apply zAs;exact rfl;exact rfl;first|assumption|omega)|(refine zAh zCD hTk (zAa rfl zAR))|(refine zAZ ids9 [] rfl rfl zAv (hT) rfl ?_ rfl (by decide) rfl rfl rfl rfl;(repeat (refine zAB rfl ?_));exact zAE)|(refine aVM zCQ (hO) ?_ rfl rfl ?_;(repeat (refine zAB rfl ?_));exact zAE)|apply ay (hd:=rfl)|exact zAJ rfl|exact zAD rfl|(apply zDX;exact rfl;exact rfl)|exact zBd rfl|exact zAc rfl rfl|exact zAH rfl|(apply w1;exact rfl;exact rfl)|(apply zAL;exact rfl)|(apply zAM;exact rfl)|apply zAU|apply zAT|apply en_r
 all_goals first|omega|skip
 all_goals exact zDJ rfl
theorem zOl(m:Img)(r:Raw){u:Nat}(ht:Arg r 1 u)(hO:zAW Tryz.prog 52 [.ptr 0 0,.d (w64 u),.d (i64 3)] (MX m r) (.d (bl false)) (MX m { r with fin:=4 })):
  zAW Tryz.prog 97 [.ptr 0 0,.d (i64 10)] (MX m r) .top (MX m { r with fin:=4 }):=by
 obtain⟨hn,_,hu,hl⟩:=ht
 have hTk:zAp Tryz.prog 122 [i64 10] (i64 1):=zEk 10
 have hT:=zBl m r (k:=0) (by omega) hu hl
 refine zAy Tryz.func97 rfl Tryz.ntmps97 Tryz.results97 rfl ?_
 intro wb St0 X fx
 repeat' first|apply en_n|apply zAK|apply zAA|apply zAF|apply w0|(apply zAn;exact rfl;exact rfl;first|assumption|omega)|(apply k0u (hd:=rfl);exact rfl;exact rfl)|(refine zAh zCD hTk (zAa rfl zAR))|(refine zAZ ids9 [] rfl rfl zAv (hT) rfl ?_ rfl (by decide) rfl rfl rfl rfl;(repeat (refine zAB rfl ?_));exact zAE)|(refine aVM zCQ (hO) ?_ rfl rfl ?_;(repeat (refine zAB rfl ?_));exact zAE)|apply ay (hd:=rfl)|exact zAJ rfl|exact zAD rfl|(apply zDX;exact rfl;exact rfl)|exact zBd rfl|exact zAj rfl rfl|exact zAH rfl|(apply zAL;exact rfl)|apply zAT|apply en_r
 all_goals first|omega|skip
 all_goals exact zDJ rfl
theorem zOk(m:Img)(r:Raw){u:Nat}(ht:Arg r 2 u)(hO:zAW Tryz.prog 52 [.ptr 0 0,.d (w64 u),.d (i64 3)] (MX m r) (.d (bl false)) (MX m { r with fin:=4 })):
  zAW Tryz.prog 97 [.ptr 0 0,.d (i64 11)] (MX m r) .top (MX m { r with fin:=4 }):=by
 obtain⟨hn,_,hu,hl⟩:=ht
 have hTk:zAp Tryz.prog 122 [i64 11] (i64 2):=zEk 11
 have hT:=zBl m r (k:=1) (by omega) hu hl
 refine zAy Tryz.func97 rfl Tryz.ntmps97 Tryz.results97 rfl ?_
 intro wb St0 X fx
 repeat' first|apply en_n|apply zAK|apply zAA|apply zAF|apply w0|(apply zAn;exact rfl;exact rfl;first|assumption|omega)|(apply zAs;exact rfl;exact rfl;first|assumption|omega)|(refine zAh zCD hTk (zAa rfl zAR))|(refine zAZ ids9 [] rfl rfl zAv (hT) rfl ?_ rfl (by decide) rfl rfl rfl rfl;(repeat (refine zAB rfl ?_));exact zAE)|(refine aVM zCQ (hO) ?_ rfl rfl ?_;(repeat (refine zAB rfl ?_));exact zAE)|apply ay (hd:=rfl)|exact zAJ rfl|exact zAD rfl|(apply zDX;exact rfl;exact rfl)|exact zBd rfl|exact zAc rfl rfl|exact zAH rfl|(apply w1;exact rfl;exact rfl)|(apply zAL;exact rfl)|apply zAT|apply en_r
 all_goals first|omega|skip
 all_goals exact zDJ rfl
theorem zOj(m:Img)(r:Raw){u:Nat}(ht:Arg r 1 u)(hO:zAW Tryz.prog 52 [.ptr 0 0,.d (w64 u),.d (i64 4)] (MX m r) (.d (bl false)) (MX m { r with fin:=4 })):
  zAW Tryz.prog 97 [.ptr 0 0,.d (i64 13)] (MX m r) .top (MX m { r with fin:=4 }):=by
 obtain⟨hn,_,hu,hl⟩:=ht
 have hTk:zAp Tryz.prog 122 [i64 13] (i64 1):=zEk 13
 have hT:=zBl m r (k:=0) (by omega) hu hl
 refine zAy Tryz.func97 rfl Tryz.ntmps97 Tryz.results97 rfl ?_
 intro wb St0 X fx
 repeat' first|apply en_n|apply zAK|apply zAA|apply zAF|apply w0|(apply zAs;exact rfl;exact rfl;first|assumption|omega)|(refine zAh zCD hTk (zAa rfl zAR))|(refine zAZ ids9 [] rfl rfl zAv (hT) rfl ?_ rfl (by decide) rfl rfl rfl rfl;(repeat (refine zAB rfl ?_));exact zAE)|(refine aVM zCQ (hO) ?_ rfl rfl ?_;(repeat (refine zAB rfl ?_));exact zAE)|apply ay (hd:=rfl)|exact zAJ rfl|exact zAD rfl|(apply zDX;exact rfl;exact rfl)|exact zBd rfl|exact zAc rfl rfl|exact zAH rfl|(apply w1;exact rfl;exact rfl)|(apply zAL;exact rfl)|(apply zAM;exact rfl)|apply zAU|apply zAT|apply en_r
 all_goals first|omega|skip
 all_goals exact zDJ rfl
theorem zQT(m:Img)(r:Raw){u:Nat}{t n:Int}{s:List UInt8}(ht:Arg r 1 u)(hB:BlkQ r u 4 t n true)(hX:TxtQ r u s):
  zAW Tryz.prog 97 [.ptr 0 0,.d (i64 8)] (MX m r) .top (MX m { r with stk:=r.stk.take (r.stk.length-1)++[nW s.length] }):=by
 obtain⟨hn,_,hu,hl⟩:=ht
 have hTk:zAp Tryz.prog 122 [i64 8] (i64 1):=zEk 8
 have hT:=zBl m r (k:=0) (by omega) hu hl
 have hO:=zFA m r hB
 have hN:=zGB m r (n:=1) (s.length:Int) hl hn
 refine zAy Tryz.func97 rfl Tryz.ntmps97 Tryz.results97 rfl ?_
 intro wb St0 X fx
 repeat' first|apply en_n|apply zAK|apply zAA|apply zAF|apply w0|(apply zAn;exact rfl;exact rfl;first|assumption|omega)|(apply zAs;exact rfl;exact rfl;first|assumption|omega)|(apply zFx;exact rfl;with_reducible exact ustr)|exact zAN rfl|(refine zAh zCD hTk (zAa rfl zAR))|(refine zAZ ids9 [] rfl rfl zAv (hT) rfl ?_ rfl (by decide) rfl rfl rfl rfl;(repeat (refine zAB rfl ?_));exact zAE)|(refine zAZ ids9 [] rfl rfl zCQ (hO) rfl ?_ rfl (by decide) rfl rfl rfl rfl;(repeat (refine zAB rfl ?_));exact zAE)|(refine zAZ [1,2,3,4] [] rfl rfl zEE (hX) rfl ?_ rfl (by decide) rfl rfl rfl rfl;(repeat (refine zAB rfl ?_));exact zAE)|(refine aVM zEP (hN) ?_ rfl rfl ?_;(repeat (refine zAB rfl ?_));exact zAE)|apply ay (hd:=rfl)|exact zAJ rfl|exact zAD rfl|(apply zDX;exact rfl;exact rfl)|exact zBd rfl|exact zAc rfl rfl|exact zAm rfl rfl|exact zAH rfl|(apply zAC;exact rfl;(with_reducible exact zBV))|(apply zAG;exact rfl;(with_reducible exact zBg);exact rfl;exact rfl)|(apply w1;exact rfl;exact rfl)|(apply zAL;exact rfl)|(apply zAM;exact rfl)|apply zAO|apply zAU|apply eb_n
 all_goals first|omega|skip
 all_goals exact zDz rfl
theorem zQU(m:Img)(r:Raw){u x:Nat}{t n:Int}(ht:Arg r 1 u)(hB:BlkQ r u 3 t n true)(hP:zA5 Tryz.prog 41 [.ptr 0 0,.d (w64 u),.d (i64 0)] (HO r.size r.now r.oth r.beg) (.tup [w64 x,bl true])):
  zAW Tryz.prog 97 [.ptr 0 0,.d (i64 10)] (MX m r) .top (MX m { r with stk:=r.stk.take (r.stk.length-1)++[x] }):=by
 obtain⟨hn,_,hu,hl⟩:=ht
 have hTk:zAp Tryz.prog 122 [i64 10] (i64 1):=zEk 10
 have hT:=zBl m r (k:=0) (by omega) hu hl
 have hO:=zFA m r hB
 have hN:=zEp m r (n:=1) (w:=x) hl hn
 refine zAy Tryz.func97 rfl Tryz.ntmps97 Tryz.results97 rfl ?_
 intro wb St0 X fx
 repeat' first|apply en_n|apply zAK|apply zAA|apply zAF|apply w0|(apply zAn;exact rfl;exact rfl;first|assumption|omega)|(apply zAs;exact rfl;exact rfl;first|assumption|omega)|(apply k0u (hd:=rfl);exact rfl;exact rfl)|exact zAN rfl|(refine zAh zCD hTk (zAa rfl zAR))|(refine zAZ ids9 [] rfl rfl zAv (hT) rfl ?_ rfl (by decide) rfl rfl rfl rfl;(repeat (refine zAB rfl ?_));exact zAE)|(refine zAZ ids9 [] rfl rfl zCQ (hO) rfl ?_ rfl (by decide) rfl rfl rfl rfl;(repeat (refine zAB rfl ?_));exact zAE)|(refine zAZ [1,2,3,4] [] rfl rfl zEn (hP) rfl ?_ rfl (by decide) rfl rfl rfl rfl;(repeat (refine zAB rfl ?_));exact zAE)|(refine aVM zDq (hN) ?_ rfl rfl ?_;(repeat (refine zAB rfl ?_));exact zAE)|apply ay (hd:=rfl)|exact zAJ rfl|exact zAD rfl|(apply zDX;exact rfl;exact rfl)|exact zBd rfl|exact zAj rfl rfl|exact zAm rfl rfl|exact zAH rfl|(apply zAC;exact rfl;(with_reducible exact zBV))|(apply zAG;exact rfl;(with_reducible exact zBg);exact rfl;exact rfl)|(apply zAL;exact rfl)|(apply zAM;exact rfl)|apply zAO|apply zAU|apply eb_n
 all_goals first|omega|skip
 all_goals exact zDz rfl
theorem zQQ(m:Img)(r:Raw){u x:Nat}{t n:Int}{now:List Nat}{b:Bool}(ht:Arg r 2 u)(h0:r.stk[r.stk.length-1-0]?=some x)(hB:BlkQ r u 3 t n true)(hP:zAW Tryz.prog 137 [.ptr 0 0,.d (w64 u),.d (i64 0),.d (w64 x)] (HO r.size r.now r.oth r.beg) (.d (bl b)) (HO r.size now r.oth r.beg)):
  zAW Tryz.prog 97 [.ptr 0 0,.d (i64 11)] (MX m r) .top (MX m { r with now:=now,stk:=r.stk.take (r.stk.length-2)++[nW 0] }):=by
 obtain⟨hn,_,hu,hl⟩:=ht
 have hTk:zAp Tryz.prog 122 [i64 11] (i64 2):=zEk 11
 have hT:=zBl m r (k:=1) (by omega) hu hl
 have hT0:=zBl m r (k:=0) (by omega) h0 hl
 have hO:=zFA m r hB
 have hN:=zGB m { r with now:=now } (n:=2) 0 hl hn
 refine zAy Tryz.func97 rfl Tryz.ntmps97 Tryz.results97 rfl ?_
 intro wb St0 X fx
 repeat' first|apply en_n|apply zAK|apply zAA|apply zAF|apply w0|(apply zAn;exact rfl;exact rfl;first|assumption|omega)|(apply zAs;exact rfl;exact rfl;first|assumption|omega)|exact zAN rfl|(refine zAh zCD hTk (zAa rfl zAR))|(refine zAZ ids9 [] rfl rfl zAv (hT) rfl ?_ rfl (by decide) rfl rfl rfl rfl;(repeat (refine zAB rfl ?_));exact zAE)|(refine zAZ ids9 [] rfl rfl zAv (hT0) rfl ?_ rfl (by decide) rfl rfl rfl rfl;(repeat (refine zAB rfl ?_));exact zAE)|(refine zAZ ids9 [] rfl rfl zCQ (hO) rfl ?_ rfl (by decide) rfl rfl rfl rfl;(repeat (refine zAB rfl ?_));exact zAE)|(refine zBr (by kernel_rfl) ?_;refine aHM zKh hP ?_ rfl rfl ?_;(repeat (refine zAB rfl ?_));exact zAE)|(refine aVM zEP (hN) ?_ rfl rfl ?_;(repeat (refine zAB rfl ?_));exact zAE)|apply ay (hd:=rfl)|exact zAJ rfl|exact zAD rfl|(apply zDX;exact rfl;exact rfl)|exact zBd rfl|exact zAc rfl rfl|exact zAH rfl|(apply zAC;exact rfl;(with_reducible exact zBV))|(apply zAG;exact rfl;(with_reducible exact zBg);exact rfl;exact rfl)|(apply w1;exact rfl;exact rfl)|(apply zAL;exact rfl)|(apply zAM;exact rfl)|apply zAO|apply zAU|refine zAr (by kernel_rfl) (by kernel_rfl) ?_|apply eb_n
 all_goals first|omega|skip
 all_goals exact zDz rfl
theorem zPi(l:List (List UInt8))(s:List UInt8): l.map str++[str s]=(l++[s]).map str:=by rw[List.map_append];rfl
theorem zQR(m:Img)(r:Raw){u:Nat}{t n:Int}{s:List UInt8}(ht:Arg r 1 u)(hB:BlkQ r u 4 t n true)(hX:TxtQ r u s)(ho:r.out.length≤1048576):
  zAW Tryz.prog 97 [.ptr 0 0,.d (i64 13)] (MX m r) .top (MX m { r with out:=r.out++[s],stk:=r.stk.take (r.stk.length-1)++[nW 0] }):=by
 obtain⟨hn,_,hu,hl⟩:=ht
 have hTk:zAp Tryz.prog 122 [i64 13] (i64 1):=zEk 13
 have hT:=zBl m r (k:=0) (by omega) hu hl
 have hO:=zFA m r hB
 have hN:=zGB m { r with out:=r.out++[s] } (n:=1) 0 hl hn
 refine zAy Tryz.func97 rfl Tryz.ntmps97 Tryz.results97 rfl ?_
 intro wb St0 X fx
 repeat' first|(refine zFE (id:=19) (s:=[(0,.ptr 0 0)]) (h:=MA fx m { r with out:=r.out++[s] }) (zAV (zAI rfl zAd) (zEb rfl rfl rfl rfl rfl List.length_append rfl rfl rfl rfl rfl rfl (zBW rfl) (zBW rfl) (zBW rfl) (congrArg (Ob.buf true _ 1) (zPi r.out s).symm)) rfl rfl) ?_)|apply en_n|apply zAK|apply zAA|apply zAF|apply w0|(apply aApp (id:=8) (hd:=rfl) (hro:=rfl);exact rfl;exact rfl;exact zCw rfl;exact(List.length_map _).symm;exact rfl;(with_reducible exact zHb);(with_reducible exact zFN);(with_reducible exact zUB);(with_reducible exact zRA);exact zDv rfl)|(apply zAn;exact rfl;exact rfl;first|assumption|omega)|(apply zAs;exact rfl;exact rfl;first|assumption|omega)|exact zAN rfl|(refine zAh zCD hTk (zAa rfl zAR))|(refine zAZ ids9 [] rfl rfl zAv (hT) rfl ?_ rfl (by decide) rfl rfl rfl rfl;(repeat (refine zAB rfl ?_));exact zAE)|(refine zAZ ids9 [] rfl rfl zCQ (hO) rfl ?_ rfl (by decide) rfl rfl rfl rfl;(repeat (refine zAB rfl ?_));exact zAE)|(refine zAZ [1,2,3,4] [] rfl rfl zEE (hX) rfl ?_ rfl (by decide) rfl rfl rfl rfl;(repeat (refine zAB rfl ?_));exact zAE)|(refine aVM zEP (hN) ?_ rfl rfl ?_;(repeat (refine zAB rfl ?_));exact zAE)|apply ay (hd:=rfl)|exact zAJ rfl|exact zAD rfl|(apply zDX;exact rfl;exact rfl)|exact zBd rfl|exact zAc rfl rfl|exact zAm rfl rfl|exact zAH rfl|(apply zAC;exact rfl;(with_reducible first|exact zF2|exact zBV|exact zBz))|(apply zAG;exact rfl;(with_reducible first|exact zBg|exact zFK|exact zFK);exact rfl;exact rfl)|(apply zCG;(with_reducible first|exact zHb|exact zHb);(with_reducible first|exact zFN|exact zFN);(with_reducible first|exact zPL|exact zPL);exact rfl;exact rfl;(first|exact zAa rfl zAR|exact CoL_b rfl rfl rfl zAR|exact CoL_n rfl zAR);exact rfl)|(apply w1;exact rfl;exact rfl)|(refine w0' ?_)|(apply zAl;exact rfl;exact rfl;exact rfl;(with_reducible first|exact zFK|exact zFK);exact rfl;exact rfl;exact rfl;exact rfl)|(apply zAL;exact rfl)|(apply zAM;exact rfl)|apply zAO|apply zAU|apply eb_n
 all_goals first|omega|skip
 all_goals first|exact zDz rfl|skip
 all_goals (simp only[List.length_cons,List.length_nil];omega)
end Go.Proofs.YtcagoomibpcdlaaGreatDoor
