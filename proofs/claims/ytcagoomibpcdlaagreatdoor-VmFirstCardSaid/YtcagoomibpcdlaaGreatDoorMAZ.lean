/- Parts of the proof. -/
import Derived.Test.YtcagoomibpcdlaaGreatDoorMAY
set_option maxHeartbeats 16000000
namespace Go.Proofs.YtcagoomibpcdlaaGreatDoor
open _root_.Go.Proofs.Tryz
open Go.Sx Go.Vm
attribute [local irreducible] zAN Program.underlying Ylds zA9 alex zB3 zBf awp zAi zCC zCB zAU zBl zAz zBq zBj zBB zBr zB2 zB8 zBi zBd zBg
theorem aHM{N d:Nat}{w0:World}{St0:Stab}{X:Nat->Prop}{ops:Array Oper}{rest:List Oper}{K:Sl->List Ob->Prop}{σ:Sl}{ty:TypeId}{pos:String}{after:Array Edge}{gd:Option (Nat×Bool)}{f:FuncId}{args:List Operand}{ts:Array TypeId}{avs:List SV}{m:Img}{r:Raw}{now:List Nat}{res:SV}{fx:Nat->Option Nat}
  (hb:zAN prog f=true) (hc:zAU prog f avs (HO r.size r.now r.oth r.beg) res (HO r.size now r.oth r.beg)) (ha:SArgs σ [1,2,3,4] args avs) (hd:Nat.blt d N=true) (hba:avs.all (SV.bel 4)=true)
  (h:alex ⟨prog,N,w0,St0,X,0⟩ false ops rest K ((d,res.ren [1,2,3,4])::zDx [2,3,4] [1,2,3,4] σ) (MA fx m { r with now:=now })) :
  zA9 ⟨prog,N,w0,St0,X,0⟩ false ops ⟨some d,.call ⟨.value (.func f),args.toArray,ts⟩,ty,pos,after,gd⟩ rest K σ (MA fx m r):=by
 have e:zDR (zEU (zBa [1,2,3,4] (HO r.size r.now r.oth r.beg)) [1,2,3,4] (MA fx m r)) [1,2,3,4] ((HO r.size now r.oth r.beg).map (Ob.ren [1,2,3,4]))=MA fx m { r with now:=now }:=rfl
 have hh:=(congrArg (alex ⟨prog,N,w0,St0,X,0⟩ false ops rest K ((d,res.ren [1,2,3,4])::zDx [2,3,4] [1,2,3,4] σ)) e).mpr h
 refine zGc (C:=⟨prog,N,w0,St0,X,0⟩) (η:=MA fx m r) [1,2,3,4] hb hc ha ?_ hd (by decide) ?_ ?_ ?_ hba ?_ ?_ hh
 ·rfl
 ·rfl
 ·rfl
 ·rfl
 ·rfl
 ·rfl
structure Arg(r:Raw)(n u:Nat): Prop where
 len:n<=r.stk.length
 pos:1<=n
 at_:r.stk[r.stk.length-1-(n-1)]?=some u
 big:r.stk.length<=1048576
theorem zQ4(m:Img)(r:Raw){u:Nat}(ht:Arg r 1 u)(hO:zAU prog 52 [.ptr 0 0,.d (w64 u),.d (i64 4)] (MX m r) (.d (bl false)) (MX m { r with fin:=4 })):
  zAU prog 97 [.ptr 0 0,.d (i64 8)] (MX m r) .top (MX m { r with fin:=4 }):=by
 obtain⟨hn,_,hu,hl⟩:=ht
 have hTk:zAi prog 122 [i64 8] (i64 1):=zEx 8
 have hT:=zBt m r (k:=0) (by omega) hu hl
 refine zAx func97 rfl ntmps97 results97 rfl ?_
 intro wb St0 X fx
 repeat' first|apply en_n|apply zAH|apply zAA|apply zAD|apply w0|exact zAm rfl rfl|(refine zAb zCG hTk (zAY rfl zAM))|(refine zAW ids9 [] rfl rfl zAr (hT) rfl (SArgs_all rfl) rfl (by decide) rfl rfl rfl rfl)|(refine aVM zCP (hO) (SArgs_all rfl) rfl rfl ?_)|apply ay (hd:=rfl)|exact zAF rfl|exact zAB rfl|refine zDb rfl rfl ?_|exact zBX rfl|exact zAX rfl rfl|exact zAG rfl|refine w1 rfl rfl ?_|refine zAI rfl ?_|refine zAJ rfl ?_|apply zAS|apply zAQ|apply en_r
 all_goals first|omega|skip
 all_goals exact zDT rfl
theorem zPN(m:Img)(r:Raw){u:Nat}(ht:Arg r 1 u)(hO:zAU prog 52 [.ptr 0 0,.d (w64 u),.d (i64 3)] (MX m r) (.d (bl false)) (MX m { r with fin:=4 })):
  zAU prog 97 [.ptr 0 0,.d (i64 10)] (MX m r) .top (MX m { r with fin:=4 }):=by
 obtain⟨hn,_,hu,hl⟩:=ht
 have hTk:zAi prog 122 [i64 10] (i64 1):=zEx 10
 have hT:=zBt m r (k:=0) (by omega) hu hl
 refine zAx func97 rfl ntmps97 results97 rfl ?_
 intro wb St0 X fx
 repeat' first|apply en_n|apply zAH|apply zAA|apply zAD|apply w0|exact zAk rfl rfl|(apply k0u (hd:=rfl);exact rfl;exact rfl)|(refine zAb zCG hTk (zAY rfl zAM))|(refine zAW ids9 [] rfl rfl zAr (hT) rfl (SArgs_all rfl) rfl (by decide) rfl rfl rfl rfl)|(refine aVM zCP (hO) (SArgs_all rfl) rfl rfl ?_)|apply ay (hd:=rfl)|exact zAF rfl|exact zAB rfl|refine zDb rfl rfl ?_|exact zBX rfl|exact zAa rfl rfl|exact zAG rfl|refine zAI rfl ?_|apply zAQ|apply en_r
 all_goals first|omega|skip
 all_goals exact zDT rfl
theorem zPM(m:Img)(r:Raw){u:Nat}(ht:Arg r 2 u)(hO:zAU prog 52 [.ptr 0 0,.d (w64 u),.d (i64 3)] (MX m r) (.d (bl false)) (MX m { r with fin:=4 })):
  zAU prog 97 [.ptr 0 0,.d (i64 11)] (MX m r) .top (MX m { r with fin:=4 }):=by
 obtain⟨hn,_,hu,hl⟩:=ht
 have hTk:zAi prog 122 [i64 11] (i64 2):=zEx 11
 have hT:=zBt m r (k:=1) (by omega) hu hl
 refine zAx func97 rfl ntmps97 results97 rfl ?_
 intro wb St0 X fx
 repeat' first|apply en_n|apply zAH|apply zAA|apply zAD|apply w0|exact zAk rfl rfl|exact zAm rfl rfl|(refine zAb zCG hTk (zAY rfl zAM))|(refine zAW ids9 [] rfl rfl zAr (hT) rfl (SArgs_all rfl) rfl (by decide) rfl rfl rfl rfl)|(refine aVM zCP (hO) (SArgs_all rfl) rfl rfl ?_)|apply ay (hd:=rfl)|exact zAF rfl|exact zAB rfl|refine zDb rfl rfl ?_|exact zBX rfl|exact zAX rfl rfl|exact zAG rfl|refine w1 rfl rfl ?_|refine zAI rfl ?_|apply zAQ|apply en_r
 all_goals first|omega|skip
 all_goals exact zDT rfl
theorem zPL(m:Img)(r:Raw){u:Nat}(ht:Arg r 1 u)(hO:zAU prog 52 [.ptr 0 0,.d (w64 u),.d (i64 4)] (MX m r) (.d (bl false)) (MX m { r with fin:=4 })):
  zAU prog 97 [.ptr 0 0,.d (i64 13)] (MX m r) .top (MX m { r with fin:=4 }):=by
 obtain⟨hn,_,hu,hl⟩:=ht
 have hTk:zAi prog 122 [i64 13] (i64 1):=zEx 13
 have hT:=zBt m r (k:=0) (by omega) hu hl
 refine zAx func97 rfl ntmps97 results97 rfl ?_
 intro wb St0 X fx
 repeat' first|apply en_n|apply zAH|apply zAA|apply zAD|apply w0|exact zAm rfl rfl|(refine zAb zCG hTk (zAY rfl zAM))|(refine zAW ids9 [] rfl rfl zAr (hT) rfl (SArgs_all rfl) rfl (by decide) rfl rfl rfl rfl)|(refine aVM zCP (hO) (SArgs_all rfl) rfl rfl ?_)|apply ay (hd:=rfl)|exact zAF rfl|exact zAB rfl|refine zDb rfl rfl ?_|exact zBX rfl|exact zAX rfl rfl|exact zAG rfl|refine w1 rfl rfl ?_|refine zAI rfl ?_|refine zAJ rfl ?_|apply zAS|apply zAQ|apply en_r
 all_goals first|omega|skip
 all_goals exact zDT rfl
theorem zQ5(m:Img)(r:Raw){u:Nat}{t n:Int}{s:List UInt8}(ht:Arg r 1 u)(hB:BlkQ r u 4 t n true)(hX:TxtQ r u s):
  zAU prog 97 [.ptr 0 0,.d (i64 8)] (MX m r) .top (MX m { r with stk:=r.stk.take (r.stk.length-1)++[nW s.length] }):=by
 obtain⟨hn,_,hu,hl⟩:=ht
 have hTk:zAi prog 122 [i64 8] (i64 1):=zEx 8
 have hT:=zBt m r (k:=0) (by omega) hu hl
 have hO:=zFQ m r hB
 have hN:=zGW m r (n:=1) (s.length:Int) hl hn
 refine zAx func97 rfl ntmps97 results97 rfl ?_
 intro wb St0 X fx
 repeat' first|apply en_n|apply zAH|apply zAA|apply zAD|apply w0|exact zAk rfl rfl|exact zAm rfl rfl|(apply zEh;exact rfl;with_reducible exact ustr)|exact zAK rfl|(refine zAb zCG hTk (zAY rfl zAM))|(refine zAW ids9 [] rfl rfl zAr (hT) rfl (SArgs_all rfl) rfl (by decide) rfl rfl rfl rfl)|(refine zAW ids9 [] rfl rfl zCP (hO) rfl (SArgs_all rfl) rfl (by decide) rfl rfl rfl rfl)|(refine zAW [1,2,3,4] [] rfl rfl zEP (hX) rfl (SArgs_all rfl) rfl (by decide) rfl rfl rfl rfl)|(refine aVM zEX (hN) (SArgs_all rfl) rfl rfl ?_)|apply ay (hd:=rfl)|exact zAF rfl|exact zAB rfl|refine zDb rfl rfl ?_|exact zBX rfl|exact zAX rfl rfl|exact zAg rfl rfl|exact zAG rfl|exact zAC rfl zBS|exact zAE rfl zBn rfl rfl|refine w1 rfl rfl ?_|refine zAI rfl ?_|refine zAJ rfl ?_|apply zAL|apply zAS|apply eb_n
 all_goals first|omega|skip
 all_goals exact zEE rfl
theorem zQ6(m:Img)(r:Raw){u x:Nat}{t n:Int}(ht:Arg r 1 u)(hB:BlkQ r u 3 t n true)(hP:zAz prog 41 [.ptr 0 0,.d (w64 u),.d (i64 0)] (HO r.size r.now r.oth r.beg) (.tup [w64 x,bl true])):
  zAU prog 97 [.ptr 0 0,.d (i64 10)] (MX m r) .top (MX m { r with stk:=r.stk.take (r.stk.length-1)++[x] }):=by
 obtain⟨hn,_,hu,hl⟩:=ht
 have hTk:zAi prog 122 [i64 10] (i64 1):=zEx 10
 have hT:=zBt m r (k:=0) (by omega) hu hl
 have hO:=zFQ m r hB
 have hN:=zE4 m r (n:=1) (w:=x) hl hn
 refine zAx func97 rfl ntmps97 results97 rfl ?_
 intro wb St0 X fx
 repeat' first|apply en_n|apply zAH|apply zAA|apply zAD|apply w0|exact zAk rfl rfl|exact zAm rfl rfl|(apply k0u (hd:=rfl);exact rfl;exact rfl)|exact zAK rfl|(refine zAb zCG hTk (zAY rfl zAM))|(refine zAW ids9 [] rfl rfl zAr (hT) rfl (SArgs_all rfl) rfl (by decide) rfl rfl rfl rfl)|(refine zAW ids9 [] rfl rfl zCP (hO) rfl (SArgs_all rfl) rfl (by decide) rfl rfl rfl rfl)|(refine zAW [1,2,3,4] [] rfl rfl zE2 (hP) rfl (SArgs_all rfl) rfl (by decide) rfl rfl rfl rfl)|(refine aVM zD4 (hN) (SArgs_all rfl) rfl rfl ?_)|apply ay (hd:=rfl)|exact zAF rfl|exact zAB rfl|refine zDb rfl rfl ?_|exact zBX rfl|exact zAa rfl rfl|exact zAg rfl rfl|exact zAG rfl|exact zAC rfl zBS|exact zAE rfl zBn rfl rfl|refine zAI rfl ?_|refine zAJ rfl ?_|apply zAL|apply zAS|apply eb_n
 all_goals first|omega|skip
 all_goals exact zEE rfl
theorem zQ2(m:Img)(r:Raw){u x:Nat}{t n:Int}{now:List Nat}{b:Bool}(ht:Arg r 2 u)(h0:r.stk[r.stk.length-1-0]?=some x)(hB:BlkQ r u 3 t n true)(hP:zAU prog 137 [.ptr 0 0,.d (w64 u),.d (i64 0),.d (w64 x)] (HO r.size r.now r.oth r.beg) (.d (bl b)) (HO r.size now r.oth r.beg)):
  zAU prog 97 [.ptr 0 0,.d (i64 11)] (MX m r) .top (MX m { r with now:=now,stk:=r.stk.take (r.stk.length-2)++[nW 0] }):=by
 obtain⟨hn,_,hu,hl⟩:=ht
 have hTk:zAi prog 122 [i64 11] (i64 2):=zEx 11
 have hT:=zBt m r (k:=1) (by omega) hu hl
 have hT0:=zBt m r (k:=0) (by omega) h0 hl
 have hO:=zFQ m r hB
 have hN:=zGW m { r with now:=now } (n:=2) 0 hl hn
 refine zAx func97 rfl ntmps97 results97 rfl ?_
 intro wb St0 X fx
 repeat' first|apply en_n|apply zAH|apply zAA|apply zAD|apply w0|exact zAk rfl rfl|exact zAm rfl rfl|exact zAK rfl|(refine zAb zCG hTk (zAY rfl zAM))|(refine zAW ids9 [] rfl rfl zAr (hT) rfl (SArgs_all rfl) rfl (by decide) rfl rfl rfl rfl)|(refine zAW ids9 [] rfl rfl zAr (hT0) rfl (SArgs_all rfl) rfl (by decide) rfl rfl rfl rfl)|(refine zAW ids9 [] rfl rfl zCP (hO) rfl (SArgs_all rfl) rfl (by decide) rfl rfl rfl rfl)|(refine zBv (by kernel_rfl) ?_;refine aHM zK3 hP (SArgs_all rfl) rfl rfl ?_)|(refine aVM zEX (hN) (SArgs_all rfl) rfl rfl ?_)|apply ay (hd:=rfl)|exact zAF rfl|exact zAB rfl|refine zDb rfl rfl ?_|exact zBX rfl|exact zAX rfl rfl|exact zAG rfl|exact zAC rfl zBS|exact zAE rfl zBn rfl rfl|refine w1 rfl rfl ?_|refine zAI rfl ?_|refine zAJ rfl ?_|apply zAL|apply zAS|refine zAj (by kernel_rfl) (by kernel_rfl) ?_|apply eb_n
 all_goals first|omega|skip
 all_goals exact zEE rfl
theorem zQJ(l:List (List UInt8))(s:List UInt8): l.map str++[str s]=(l++[s]).map str:=by rw[qAk];rfl
theorem zQ3(m:Img)(r:Raw){u:Nat}{t n:Int}{s:List UInt8}(ht:Arg r 1 u)(hB:BlkQ r u 4 t n true)(hX:TxtQ r u s)(ho:r.out.length<=1048576):
  zAU prog 97 [.ptr 0 0,.d (i64 13)] (MX m r) .top (MX m { r with out:=r.out++[s],stk:=r.stk.take (r.stk.length-1)++[nW 0] }):=by
 obtain⟨hn,_,hu,hl⟩:=ht
 have hTk:zAi prog 122 [i64 13] (i64 1):=zEx 13
 have hT:=zBt m r (k:=0) (by omega) hu hl
 have hO:=zFQ m r hB
 have hN:=zGW m { r with out:=r.out++[s] } (n:=1) 0 hl hn
 refine zAx func97 rfl ntmps97 results97 rfl ?_
 intro wb St0 X fx
 repeat' first|(refine zFV (id:=19) (s:=[(0,.ptr 0 0)]) (h:=MA fx m { r with out:=r.out++[s] }) (zAT (Le_all rfl) (zEi rfl rfl rfl rfl rfl qAE rfl rfl rfl rfl rfl rfl (zBU rfl) (zBU rfl) (zBU rfl) (congrArg (Ob.buf true _ 1) (zQJ r.out s).symm)) rfl rfl) ?_)|apply en_n|apply zAH|apply zAA|apply zAD|apply w0|(apply aApp (id:=8) (hd:=rfl) (hro:=rfl);exact rfl;exact rfl;exact zCW rfl;exact(qAC _).symm;exact rfl;(with_reducible exact zHr);(with_reducible exact zFg);(with_reducible exact zUt);(with_reducible exact zRn);exact zEA rfl)|exact zAk rfl rfl|exact zAm rfl rfl|exact zAK rfl|(refine zAb zCG hTk (zAY rfl zAM))|(refine zAW ids9 [] rfl rfl zAr (hT) rfl (SArgs_all rfl) rfl (by decide) rfl rfl rfl rfl)|(refine zAW ids9 [] rfl rfl zCP (hO) rfl (SArgs_all rfl) rfl (by decide) rfl rfl rfl rfl)|(refine zAW [1,2,3,4] [] rfl rfl zEP (hX) rfl (SArgs_all rfl) rfl (by decide) rfl rfl rfl rfl)|(refine aVM zEX (hN) (SArgs_all rfl) rfl rfl ?_)|apply ay (hd:=rfl)|exact zAF rfl|exact zAB rfl|refine zDb rfl rfl ?_|exact zBX rfl|exact zAX rfl rfl|exact zAg rfl rfl|exact zAG rfl|(apply zAC;exact rfl;(with_reducible first|exact zGO|exact zBS|exact zB1))|(apply zAE;exact rfl;(with_reducible first|exact zBn|exact zFa|exact zFa);exact rfl;exact rfl)|(apply zCI;(with_reducible first|exact zHr|exact zHr);(with_reducible first|exact zFg|exact zFg);(with_reducible first|exact zPy|exact zPy);exact rfl;exact rfl;(first|exact zAY rfl zAM|exact CoL_b rfl rfl rfl zAM|exact CoL_n rfl zAM);exact rfl)|refine w1 rfl rfl ?_|(refine w0' ?_)|(apply zAh;exact rfl;exact rfl;exact rfl;(with_reducible first|exact zFa|exact zFa);exact rfl;exact rfl;exact rfl;exact rfl)|refine zAI rfl ?_|refine zAJ rfl ?_|apply zAL|apply zAS|apply eb_n
 all_goals first|omega|skip
 all_goals first|exact zEE rfl|skip
 all_goals (simp only[qAS,qAv];omega)
end Go.Proofs.YtcagoomibpcdlaaGreatDoor
