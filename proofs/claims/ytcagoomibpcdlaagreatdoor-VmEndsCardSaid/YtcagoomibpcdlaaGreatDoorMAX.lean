/- Parts of the proof. -/
import Derived.Test.YtcagoomibpcdlaaGreatDoorMAW
set_option maxHeartbeats 16000000
namespace Go.Proofs.YtcagoomibpcdlaaGreatDoor
open _root_.Go.Proofs.Tryz
open Go.Sx Go.Vm
attribute [local irreducible] zAO Program.underlying Ylds zBE alex zB0 zBk awp zAg zB9 zB8 zAU zBj zA6 zBl zBn zBC zBq zBz zB7 zBm zBc zBe
theorem aHM{N d:Nat}{w0:World}{St0:Stab}{X:Nat->Prop}{ops:Array Oper}{rest:List Oper}{K:Sl->List Ob->Prop}{σ:Sl}{ty:TypeId}{pos:String}{after:Array Edge}{gd:Option (Nat×Bool)}{f:FuncId}{args:List Operand}{ts:Array TypeId}{avs:List SV}{m:Img}{r:Raw}{now:List Nat}{res:SV}{fx:Nat->Option Nat}
  (hb:zAO prog f=true) (hc:zAU prog f avs (HO r.size r.now r.oth r.beg) res (HO r.size now r.oth r.beg)) (ha:SArgs σ [1,2,3,4] args avs) (hd:Nat.blt d N=true) (hba:avs.all (SV.bel 4)=true)
  (h:alex ⟨prog,N,w0,St0,X,0⟩ false ops rest K ((d,res.ren [1,2,3,4])::zD2 [2,3,4] [1,2,3,4] σ) (MA fx m { r with now:=now })) :
  zBE ⟨prog,N,w0,St0,X,0⟩ false ops ⟨some d,.call ⟨.value (.func f),args.toArray,ts⟩,ty,pos,after,gd⟩ rest K σ (MA fx m r):=by
 have e:zDT (zEc (zBo [1,2,3,4] (HO r.size r.now r.oth r.beg)) [1,2,3,4] (MA fx m r)) [1,2,3,4] ((HO r.size now r.oth r.beg).map (Ob.ren [1,2,3,4]))=MA fx m { r with now:=now }:=rfl
 have hh:=(congrArg (alex ⟨prog,N,w0,St0,X,0⟩ false ops rest K ((d,res.ren [1,2,3,4])::zD2 [2,3,4] [1,2,3,4] σ)) e).mpr h
 refine zGg (C:=⟨prog,N,w0,St0,X,0⟩) (η:=MA fx m r) [1,2,3,4] hb hc ha ?_ hd (by decide) ?_ ?_ ?_ hba ?_ ?_ hh
 ·rfl
 ·rfl
 ·rfl
 ·rfl
 ·rfl
 ·rfl
structure Arg(r:Raw)(n u:Nat): Prop where
 len:n<=r.stk.length
 pos:1<=n
 at_:r.stk[r.stk.length-1-(n-1)]?=some u
 big:r.stk.length<=1048576
theorem zRp(m:Img)(r:Raw){u:Nat}(ht:Arg r 1 u)(hO:zAU prog 52 [.ptr 0 0,.d (w64 u),.d (i64 4)] (MX m r) (.d (bl false)) (MX m { r with fin:=4 })):
  zAU prog 97 [.ptr 0 0,.d (i64 8)] (MX m r) .top (MX m { r with fin:=4 }):=by
 obtain⟨hn,_,hu,hl⟩:=ht
 have hTk:zAg prog 122 [i64 8] (i64 1):=zE7 8
 have hT:=zB4 m r (k:=0) (by omega) hu hl
 refine zA7 func97 rfl ntmps97 results97 rfl ?_
 intro wb St0 X fx
 repeat' first|apply en_n|apply zAG|apply zAA|apply zAD|apply w0|exact zAn rfl rfl|(refine zAd zCO hTk (CoLA rfl))|(refine zAX ids9 [] rfl rfl zAw (hT) rfl (SArgs_all rfl) rfl (by decide) rfl rfl rfl rfl)|(refine aVM zCU (hO) (SArgs_all rfl) rfl rfl ?_)|apply ay (hd:=rfl)|exact zAF rfl|exact zAB rfl|refine zC2 rfl rfl ?_|exact zBS rfl|exact zAV rfl rfl|exact zAH rfl|refine w1 rfl rfl ?_|refine zAI rfl ?_|refine zAJ rfl ?_|apply zAR|apply zAQ|apply en_r
 all_goals first|omega|skip
 all_goals exact zDW rfl
theorem zP0(m:Img)(r:Raw){u:Nat}(ht:Arg r 1 u)(hO:zAU prog 52 [.ptr 0 0,.d (w64 u),.d (i64 3)] (MX m r) (.d (bl false)) (MX m { r with fin:=4 })):
  zAU prog 97 [.ptr 0 0,.d (i64 10)] (MX m r) .top (MX m { r with fin:=4 }):=by
 obtain⟨hn,_,hu,hl⟩:=ht
 have hTk:zAg prog 122 [i64 10] (i64 1):=zE7 10
 have hT:=zB4 m r (k:=0) (by omega) hu hl
 refine zA7 func97 rfl ntmps97 results97 rfl ?_
 intro wb St0 X fx
 repeat' first|apply en_n|apply zAG|apply zAA|apply zAD|apply w0|exact zAi rfl rfl|refine k0u (hd:=rfl) rfl rfl ?_|(refine zAd zCO hTk (CoLA rfl))|(refine zAX ids9 [] rfl rfl zAw (hT) rfl (SArgs_all rfl) rfl (by decide) rfl rfl rfl rfl)|(refine aVM zCU (hO) (SArgs_all rfl) rfl rfl ?_)|apply ay (hd:=rfl)|exact zAF rfl|exact zAB rfl|refine zC2 rfl rfl ?_|exact zBS rfl|exact zAZ rfl rfl|exact zAH rfl|refine zAI rfl ?_|apply zAQ|apply en_r
 all_goals first|omega|skip
 all_goals exact zDW rfl
theorem zPz(m:Img)(r:Raw){u:Nat}(ht:Arg r 2 u)(hO:zAU prog 52 [.ptr 0 0,.d (w64 u),.d (i64 3)] (MX m r) (.d (bl false)) (MX m { r with fin:=4 })):
  zAU prog 97 [.ptr 0 0,.d (i64 11)] (MX m r) .top (MX m { r with fin:=4 }):=by
 obtain⟨hn,_,hu,hl⟩:=ht
 have hTk:zAg prog 122 [i64 11] (i64 2):=zE7 11
 have hT:=zB4 m r (k:=1) (by omega) hu hl
 refine zA7 func97 rfl ntmps97 results97 rfl ?_
 intro wb St0 X fx
 repeat' first|apply en_n|apply zAG|apply zAA|apply zAD|apply w0|exact zAi rfl rfl|exact zAn rfl rfl|(refine zAd zCO hTk (CoLA rfl))|(refine zAX ids9 [] rfl rfl zAw (hT) rfl (SArgs_all rfl) rfl (by decide) rfl rfl rfl rfl)|(refine aVM zCU (hO) (SArgs_all rfl) rfl rfl ?_)|apply ay (hd:=rfl)|exact zAF rfl|exact zAB rfl|refine zC2 rfl rfl ?_|exact zBS rfl|exact zAV rfl rfl|exact zAH rfl|refine w1 rfl rfl ?_|refine zAI rfl ?_|apply zAQ|apply en_r
 all_goals first|omega|skip
 all_goals exact zDW rfl
theorem zPy(m:Img)(r:Raw){u:Nat}(ht:Arg r 1 u)(hO:zAU prog 52 [.ptr 0 0,.d (w64 u),.d (i64 4)] (MX m r) (.d (bl false)) (MX m { r with fin:=4 })):
  zAU prog 97 [.ptr 0 0,.d (i64 13)] (MX m r) .top (MX m { r with fin:=4 }):=by
 obtain⟨hn,_,hu,hl⟩:=ht
 have hTk:zAg prog 122 [i64 13] (i64 1):=zE7 13
 have hT:=zB4 m r (k:=0) (by omega) hu hl
 refine zA7 func97 rfl ntmps97 results97 rfl ?_
 intro wb St0 X fx
 repeat' first|apply en_n|apply zAG|apply zAA|apply zAD|apply w0|exact zAn rfl rfl|(refine zAd zCO hTk (CoLA rfl))|(refine zAX ids9 [] rfl rfl zAw (hT) rfl (SArgs_all rfl) rfl (by decide) rfl rfl rfl rfl)|(refine aVM zCU (hO) (SArgs_all rfl) rfl rfl ?_)|apply ay (hd:=rfl)|exact zAF rfl|exact zAB rfl|refine zC2 rfl rfl ?_|exact zBS rfl|exact zAV rfl rfl|exact zAH rfl|refine w1 rfl rfl ?_|refine zAI rfl ?_|refine zAJ rfl ?_|apply zAR|apply zAQ|apply en_r
 all_goals first|omega|skip
 all_goals exact zDW rfl
theorem zRq(m:Img)(r:Raw){u:Nat}{t n:Int}{s:List UInt8}(ht:Arg r 1 u)(hB:BlkQ r u 4 t n true)(hX:TxtQ r u s):
  zAU prog 97 [.ptr 0 0,.d (i64 8)] (MX m r) .top (MX m { r with stk:=r.stk.take (r.stk.length-1)++[nW s.length] }):=by
 obtain⟨hn,_,hu,hl⟩:=ht
 have hTk:zAg prog 122 [i64 8] (i64 1):=zE7 8
 have hT:=zB4 m r (k:=0) (by omega) hu hl
 have hO:=zFU m r hB
 have hN:=zGX m r (n:=1) (s.length:Int) hl hn
 refine zA7 func97 rfl ntmps97 results97 rfl ?_
 intro wb St0 X fx
 repeat' first|apply en_n|apply zAG|apply zAA|apply zAD|apply w0|exact zAi rfl rfl|exact zAn rfl rfl|(apply zEY;exact rfl;with_reducible exact ustr)|exact zAL rfl|(refine zAd zCO hTk (CoLA rfl))|(refine zAX ids9 [] rfl rfl zAw (hT) rfl (SArgs_all rfl) rfl (by decide) rfl rfl rfl rfl)|(refine zAX ids9 [] rfl rfl zCU (hO) rfl (SArgs_all rfl) rfl (by decide) rfl rfl rfl rfl)|(refine zAX [1,2,3,4] [] rfl rfl zEW (hX) rfl (SArgs_all rfl) rfl (by decide) rfl rfl rfl rfl)|(refine aVM zEg (hN) (SArgs_all rfl) rfl rfl ?_)|apply ay (hd:=rfl)|exact zAF rfl|exact zAB rfl|refine zC2 rfl rfl ?_|exact zBS rfl|exact zAV rfl rfl|exact zAk rfl rfl|exact zAH rfl|exact zAC rfl zBb|exact zAE rfl zBw rfl rfl|refine w1 rfl rfl ?_|refine zAI rfl ?_|refine zAJ rfl ?_|apply zAK|apply zAR|apply eb_n
 all_goals first|omega|skip
 all_goals exact zEG rfl
theorem zRr(m:Img)(r:Raw){u x:Nat}{t n:Int}(ht:Arg r 1 u)(hB:BlkQ r u 3 t n true)(hP:zA6 prog 41 [.ptr 0 0,.d (w64 u),.d (i64 0)] (HO r.size r.now r.oth r.beg) (.tup [w64 x,bl true])):
  zAU prog 97 [.ptr 0 0,.d (i64 10)] (MX m r) .top (MX m { r with stk:=r.stk.take (r.stk.length-1)++[x] }):=by
 obtain⟨hn,_,hu,hl⟩:=ht
 have hTk:zAg prog 122 [i64 10] (i64 1):=zE7 10
 have hT:=zB4 m r (k:=0) (by omega) hu hl
 have hO:=zFU m r hB
 have hN:=zFC m r (n:=1) (w:=x) hl hn
 refine zA7 func97 rfl ntmps97 results97 rfl ?_
 intro wb St0 X fx
 repeat' first|apply en_n|apply zAG|apply zAA|apply zAD|apply w0|exact zAi rfl rfl|exact zAn rfl rfl|refine k0u (hd:=rfl) rfl rfl ?_|exact zAL rfl|(refine zAd zCO hTk (CoLA rfl))|(refine zAX ids9 [] rfl rfl zAw (hT) rfl (SArgs_all rfl) rfl (by decide) rfl rfl rfl rfl)|(refine zAX ids9 [] rfl rfl zCU (hO) rfl (SArgs_all rfl) rfl (by decide) rfl rfl rfl rfl)|(refine zAX [1,2,3,4] [] rfl rfl zFA (hP) rfl (SArgs_all rfl) rfl (by decide) rfl rfl rfl rfl)|(refine aVM zD8 (hN) (SArgs_all rfl) rfl rfl ?_)|apply ay (hd:=rfl)|exact zAF rfl|exact zAB rfl|refine zC2 rfl rfl ?_|exact zBS rfl|exact zAZ rfl rfl|exact zAk rfl rfl|exact zAH rfl|exact zAC rfl zBb|exact zAE rfl zBw rfl rfl|refine zAI rfl ?_|refine zAJ rfl ?_|apply zAK|apply zAR|apply eb_n
 all_goals first|omega|skip
 all_goals exact zEG rfl
theorem zRn(m:Img)(r:Raw){u x:Nat}{t n:Int}{now:List Nat}{b:Bool}(ht:Arg r 2 u)(h0:r.stk[r.stk.length-1-0]?=some x)(hB:BlkQ r u 3 t n true)(hP:zAU prog 137 [.ptr 0 0,.d (w64 u),.d (i64 0),.d (w64 x)] (HO r.size r.now r.oth r.beg) (.d (bl b)) (HO r.size now r.oth r.beg)):
  zAU prog 97 [.ptr 0 0,.d (i64 11)] (MX m r) .top (MX m { r with now:=now,stk:=r.stk.take (r.stk.length-2)++[nW 0] }):=by
 obtain⟨hn,_,hu,hl⟩:=ht
 have hTk:zAg prog 122 [i64 11] (i64 2):=zE7 11
 have hT:=zB4 m r (k:=1) (by omega) hu hl
 have hT0:=zB4 m r (k:=0) (by omega) h0 hl
 have hO:=zFU m r hB
 have hN:=zGX m { r with now:=now } (n:=2) 0 hl hn
 refine zA7 func97 rfl ntmps97 results97 rfl ?_
 intro wb St0 X fx
 repeat' first|apply en_n|apply zAG|apply zAA|apply zAD|apply w0|exact zAi rfl rfl|exact zAn rfl rfl|exact zAL rfl|(refine zAd zCO hTk (CoLA rfl))|(refine zAX ids9 [] rfl rfl zAw (hT) rfl (SArgs_all rfl) rfl (by decide) rfl rfl rfl rfl)|(refine zAX ids9 [] rfl rfl zAw (hT0) rfl (SArgs_all rfl) rfl (by decide) rfl rfl rfl rfl)|(refine zAX ids9 [] rfl rfl zCU (hO) rfl (SArgs_all rfl) rfl (by decide) rfl rfl rfl rfl)|(refine zBs (by kernel_rfl) ?_;refine aHM zLX hP (SArgs_all rfl) rfl rfl ?_)|(refine aVM zEg (hN) (SArgs_all rfl) rfl rfl ?_)|apply ay (hd:=rfl)|exact zAF rfl|exact zAB rfl|refine zC2 rfl rfl ?_|exact zBS rfl|exact zAV rfl rfl|exact zAH rfl|exact zAC rfl zBb|exact zAE rfl zBw rfl rfl|refine w1 rfl rfl ?_|refine zAI rfl ?_|refine zAJ rfl ?_|apply zAK|apply zAR|refine zAf (by kernel_rfl) (by kernel_rfl) ?_|apply eb_n
 all_goals first|omega|skip
 all_goals exact zEG rfl
theorem zQz(l:List (List UInt8))(s:List UInt8): l.map str++[str s]=(l++[s]).map str:=by rw[qAl];rfl
theorem zRo(m:Img)(r:Raw){u:Nat}{t n:Int}{s:List UInt8}(ht:Arg r 1 u)(hB:BlkQ r u 4 t n true)(hX:TxtQ r u s)(ho:r.out.length<=1048576):
  zAU prog 97 [.ptr 0 0,.d (i64 13)] (MX m r) .top (MX m { r with out:=r.out++[s],stk:=r.stk.take (r.stk.length-1)++[nW 0] }):=by
 obtain⟨hn,_,hu,hl⟩:=ht
 have hTk:zAg prog 122 [i64 13] (i64 1):=zE7 13
 have hT:=zB4 m r (k:=0) (by omega) hu hl
 have hO:=zFU m r hB
 have hN:=zGX m { r with out:=r.out++[s] } (n:=1) 0 hl hn
 refine zA7 func97 rfl ntmps97 results97 rfl ?_
 intro wb St0 X fx
 repeat' first|(refine zFZ (id:=19) (s:=[(0,.ptr 0 0)]) (h:=MA fx m { r with out:=r.out++[s] }) (zAS (Le_all rfl) (zEp rfl rfl rfl rfl rfl qAD rfl rfl rfl rfl rfl rfl (zBf rfl) (zBf rfl) (zBf rfl) (congrArg (Ob.buf true _ 1) (zQz r.out s).symm)) rfl rfl) ?_)|apply en_n|apply zAG|apply zAA|apply zAD|apply w0|(apply aApp (id:=8) (hd:=rfl) (hro:=rfl);exact rfl;exact rfl;exact zCQ rfl;exact(qAC _).symm;exact rfl;(with_reducible exact zG7);(with_reducible exact zGe);(with_reducible exact zVa);(with_reducible exact zSb);exact zDS rfl)|exact zAi rfl rfl|exact zAn rfl rfl|exact zAL rfl|(refine zAd zCO hTk (CoLA rfl))|(refine zAX ids9 [] rfl rfl zAw (hT) rfl (SArgs_all rfl) rfl (by decide) rfl rfl rfl rfl)|(refine zAX ids9 [] rfl rfl zCU (hO) rfl (SArgs_all rfl) rfl (by decide) rfl rfl rfl rfl)|(refine zAX [1,2,3,4] [] rfl rfl zEW (hX) rfl (SArgs_all rfl) rfl (by decide) rfl rfl rfl rfl)|(refine aVM zEg (hN) (SArgs_all rfl) rfl rfl ?_)|apply ay (hd:=rfl)|exact zAF rfl|exact zAB rfl|refine zC2 rfl rfl ?_|exact zBS rfl|exact zAV rfl rfl|exact zAk rfl rfl|exact zAH rfl|(apply zAC;exact rfl;(with_reducible first|exact zJR|exact zBb|exact zCB))|(apply zAE;exact rfl;(with_reducible first|exact zBw|exact zIH|exact zIH);exact rfl;exact rfl)|(apply zCC;(with_reducible first|exact zG7|exact zG7);(with_reducible first|exact zGe|exact zGe);(with_reducible first|exact zN4|exact zN4);exact rfl;exact rfl;(first|exact zAY rfl zAM|exact CoL_b rfl rfl rfl zAM|exact CoL_n rfl zAM);exact rfl)|refine w1 rfl rfl ?_|(refine w0' ?_)|(apply zAj;exact rfl;exact rfl;exact rfl;(with_reducible first|exact zIH|exact zIH);exact rfl;exact rfl;exact rfl;exact rfl)|refine zAI rfl ?_|refine zAJ rfl ?_|apply zAK|apply zAR|apply eb_n
 all_goals first|omega|skip
 all_goals first|exact zEG rfl|skip
 all_goals (simp only[qAP,qAp];omega)
end Go.Proofs.YtcagoomibpcdlaaGreatDoor
