import Derived.Test.YtcagoomibpcdlaaGreatDoorMAT
set_option maxHeartbeats 16000000
namespace Go.Proofs.YtcagoomibpcdlaaGreatDoor
open _root_.Go.Proofs.Tryz
open Go.Sx Go.Vm
attribute [local irreducible] zAL Program.underlying Ylds zA2 alex zBZ zBP awp zAb zBh zBg zAW zBF zAp zBG zBR zAr zBV zBY zBe zBM zA8 zBE
theorem aHM{N d:Nat}{w0:World}{St0:Stab}{X:Nat->Prop}{ops:Array Oper}{rest:List Oper}{K:Sl->List Ob->Prop}{σ:Sl}{ty:TypeId}{pos:String}{after:Array Edge}{gd:Option (Nat×Bool)}{f:FuncId}{args:List Operand}{ts:Array TypeId}{avs:List SV}{m:Img}{r:Raw}{now:List Nat}{res:SV}{fx:Nat->Option Nat}
  (hb:zAL prog f=true) (hc:zAW prog f avs (HO r.size r.now r.oth r.beg) res (HO r.size now r.oth r.beg)) (ha:SArgs σ [1,2,3,4] args avs) (hd:Nat.blt d N=true) (hba:avs.all (SV.bel 4)=true)
  (h:alex ⟨prog,N,w0,St0,X,0⟩ false ops rest K ((d,res.ren [1,2,3,4])::zEl [2,3,4] [1,2,3,4] σ) (MA fx m { r with now:=now })) :
  zA2 ⟨prog,N,w0,St0,X,0⟩ false ops ⟨some d,.call ⟨.value (.func f),args.toArray,ts⟩,ty,pos,after,gd⟩ rest K σ (MA fx m r):=by
 have e:zD6 (zFT (zB2 [1,2,3,4] (HO r.size r.now r.oth r.beg)) [1,2,3,4] (MA fx m r)) [1,2,3,4] ((HO r.size now r.oth r.beg).map (Ob.ren [1,2,3,4]))=MA fx m { r with now:=now }:=rfl
 have hh:=(congrArg (alex ⟨prog,N,w0,St0,X,0⟩ false ops rest K ((d,res.ren [1,2,3,4])::zEl [2,3,4] [1,2,3,4] σ)) e).mpr h
 refine zHi (C:=⟨prog,N,w0,St0,X,0⟩) (η:=MA fx m r) [1,2,3,4] hb hc ha ?_ hd (by decide) ?_ ?_ ?_ hba ?_ ?_ hh
 ·rfl
 ·rfl
 ·rfl
 ·rfl
 ·rfl
 ·rfl
structure Arg(r:Raw)(n u:Nat): Prop where
 len:n<=r.stk.length
 pos:1<=n
 at_:r.stk[r.stk.length-1-(n-1)]?=some u
 big:r.stk.length<=1048576
theorem zUW(m:Img)(r:Raw){u:Nat}(ht:Arg r 1 u)(hO:zAW prog 52 [.ptr 0 0,.d (w64 u),.d (i64 4)] (MX m r) (.d (bl false)) (MX m { r with fin:=4 })):
  zAW prog 97 [.ptr 0 0,.d (i64 8)] (MX m r) .top (MX m { r with fin:=4 }):=by
 obtain⟨hn,_,hu,hl⟩:=ht
 have hTk:zAb prog 122 [i64 8] (i64 1):=zF4 8
 have hT:=zCH m r (k:=0) (by omega) hu hl
 refine zBr func97 rfl ntmps97 results97 rfl ?_
 intro wb St0 X fx
 exact yN
theorem zSU(m:Img)(r:Raw){u:Nat}(ht:Arg r 1 u)(hO:zAW prog 52 [.ptr 0 0,.d (w64 u),.d (i64 3)] (MX m r) (.d (bl false)) (MX m { r with fin:=4 })):
  zAW prog 97 [.ptr 0 0,.d (i64 10)] (MX m r) .top (MX m { r with fin:=4 }):=by
 obtain⟨hn,_,hu,hl⟩:=ht
 have hTk:zAb prog 122 [i64 10] (i64 1):=zF4 10
 have hT:=zCH m r (k:=0) (by omega) hu hl
 refine zBr func97 rfl ntmps97 results97 rfl ?_
 intro wb St0 X fx
 exact yM
theorem zST(m:Img)(r:Raw){u:Nat}(ht:Arg r 2 u)(hO:zAW prog 52 [.ptr 0 0,.d (w64 u),.d (i64 3)] (MX m r) (.d (bl false)) (MX m { r with fin:=4 })):
  zAW prog 97 [.ptr 0 0,.d (i64 11)] (MX m r) .top (MX m { r with fin:=4 }):=by
 obtain⟨hn,_,hu,hl⟩:=ht
 have hTk:zAb prog 122 [i64 11] (i64 2):=zF4 11
 have hT:=zCH m r (k:=1) (by omega) hu hl
 refine zBr func97 rfl ntmps97 results97 rfl ?_
 intro wb St0 X fx
 exact yN
theorem zSS(m:Img)(r:Raw){u:Nat}(ht:Arg r 1 u)(hO:zAW prog 52 [.ptr 0 0,.d (w64 u),.d (i64 4)] (MX m r) (.d (bl false)) (MX m { r with fin:=4 })):
  zAW prog 97 [.ptr 0 0,.d (i64 13)] (MX m r) .top (MX m { r with fin:=4 }):=by
 obtain⟨hn,_,hu,hl⟩:=ht
 have hTk:zAb prog 122 [i64 13] (i64 1):=zF4 13
 have hT:=zCH m r (k:=0) (by omega) hu hl
 refine zBr func97 rfl ntmps97 results97 rfl ?_
 intro wb St0 X fx
 exact yN
theorem zUX(m:Img)(r:Raw){u:Nat}{t n:Int}{s:List UInt8}(ht:Arg r 1 u)(hB:BlkQ r u 4 t n true)(hX:TxtQ r u s):
  zAW prog 97 [.ptr 0 0,.d (i64 8)] (MX m r) .top (MX m { r with stk:=r.stk.take (r.stk.length-1)++[nW s.length] }):=by
 obtain⟨hn,_,hu,hl⟩:=ht
 have hTk:zAb prog 122 [i64 8] (i64 1):=zF4 8
 have hT:=zCH m r (k:=0) (by omega) hu hl
 have hO:=zGf m r hB
 have hN:=zH0 m r (n:=1) (s.length:Int) hl hn
 refine zBr func97 rfl ntmps97 results97 rfl ?_
 intro wb St0 X fx
 exact yI
theorem zUY(m:Img)(r:Raw){u x:Nat}{t n:Int}(ht:Arg r 1 u)(hB:BlkQ r u 3 t n true)(hP:zAp prog 41 [.ptr 0 0,.d (w64 u),.d (i64 0)] (HO r.size r.now r.oth r.beg) (.tup [w64 x,bl true])):
  zAW prog 97 [.ptr 0 0,.d (i64 10)] (MX m r) .top (MX m { r with stk:=r.stk.take (r.stk.length-1)++[x] }):=by
 obtain⟨hn,_,hu,hl⟩:=ht
 have hTk:zAb prog 122 [i64 10] (i64 1):=zF4 10
 have hT:=zCH m r (k:=0) (by omega) hu hl
 have hO:=zGf m r hB
 have hN:=zGA m r (n:=1) (w:=x) hl hn
 refine zBr func97 rfl ntmps97 results97 rfl ?_
 intro wb St0 X fx
 exact yM
theorem zUU(m:Img)(r:Raw){u x:Nat}{t n:Int}{now:List Nat}{b:Bool}(ht:Arg r 2 u)(h0:r.stk[r.stk.length-1-0]?=some x)(hB:BlkQ r u 3 t n true)(hP:zAW prog 137 [.ptr 0 0,.d (w64 u),.d (i64 0),.d (w64 x)] (HO r.size r.now r.oth r.beg) (.d (bl b)) (HO r.size now r.oth r.beg)):
  zAW prog 97 [.ptr 0 0,.d (i64 11)] (MX m r) .top (MX m { r with now:=now,stk:=r.stk.take (r.stk.length-2)++[nW 0] }):=by
 obtain⟨hn,_,hu,hl⟩:=ht
 have hTk:zAb prog 122 [i64 11] (i64 2):=zF4 11
 have hT:=zCH m r (k:=1) (by omega) hu hl
 have hT0:=zCH m r (k:=0) (by omega) h0 hl
 have hO:=zGf m r hB
 have hN:=zH0 m { r with now:=now } (n:=2) 0 hl hn
 refine zBr func97 rfl ntmps97 results97 rfl ?_
 intro wb St0 X fx
 exact yI
theorem zTc(l:List (List UInt8))(s:List UInt8): l.map str++[str s]=(l++[s]).map str:=by rw[qAU];rfl
theorem zUV(m:Img)(r:Raw){u:Nat}{t n:Int}{s:List UInt8}(ht:Arg r 1 u)(hB:BlkQ r u 4 t n true)(hX:TxtQ r u s)(ho:r.out.length<=1048576):
  zAW prog 97 [.ptr 0 0,.d (i64 13)] (MX m r) .top (MX m { r with out:=r.out++[s],stk:=r.stk.take (r.stk.length-1)++[nW 0] }):=by
 obtain⟨hn,_,hu,hl⟩:=ht
 have hTk:zAb prog 122 [i64 13] (i64 1):=zF4 13
 have hT:=zCH m r (k:=0) (by omega) hu hl
 have hO:=zGf m r hB
 have hN:=zH0 m { r with out:=r.out++[s] } (n:=1) 0 hl hn
 refine zBr func97 rfl ntmps97 results97 rfl ?_
 intro wb St0 X fx
 repeat' first|(refine zGk (id:=19) (s:=[(0,.ptr 0 0)]) (h:=MA fx m { r with out:=r.out++[s] }) (zAU (Le_all rfl) (zFl rfl rfl rfl rfl rfl qAE rfl rfl rfl rfl rfl rfl (zBs rfl) (zBs rfl) (zBs rfl) (congrArg (Ob.buf true _ 1) (zTc r.out s).symm)) rfl rfl) ?_)|apply en_n|apply zAE|apply zAA|apply zAB|apply w0|(apply aApp (id:=8) (hd:=rfl) (hro:=rfl);exact rfl;exact rfl;exact zA0 rfl;exact(qAC _).symm;exact rfl;(with_reducible exact zFA);(with_reducible exact zEn);(with_reducible exact zQN);(with_reducible exact zNY);exact zCu rfl)|exact ycA zCk hTk|exact qcA ids9 [] zBJ (hT)|exact qcA ids9 [] zCd (hO)|exact qcA [1,2,3,4] [] zFM (hX)|(refine aVMA zFX (hN) ?_)|refine ayA rfl ?_|refine ayQ rfl ?_|refine ayL rfl ?_|apply ay (hd:=rfl)|refine zCe rfl rfl ?_|refine w1 rfl rfl ?_|(refine w0' ?_)|refine aStA ?_|refine zAJ rfl ?_|refine zAI rfl ?_|apply zAO|apply zAP|apply eb_n
 all_goals first|omega|skip
 all_goals first|exact zE5 rfl|skip
 all_goals (simp only[qAN,qAj];omega)
