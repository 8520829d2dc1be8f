/- Texts of this claim, merged: VmBK. -/
import Derived.Test.YtcagoomibpcdlaaGreatDoorMAF
import Derived.Test.YtcagoomibpcdlaaGreatDoorMAV
namespace Go.Proofs.YtcagoomibpcdlaaGreatDoor
open Go.Sx Go.Vm
abbrev MXb(m:Img)(r:Raw): List Ob:=MX m r++[.box [.ptr 0 0]]
def MAc(fx:Nat→Option Nat)(k:Option Nat)(m:Img)(r:Raw): List Ob:=MA fx m r++[.bx k none [.ptr 0 0]]
abbrev ids10: List Nat:=[0,1,2,3,4,5,6,7,8,9]
theorem zWz(fx:Nat→Option Nat)(k:Option Nat)(m:Img)(r r':Raw): zDH (zEL (zBa ids9 (MX m r)) ids9 (MAc fx k m r)) ids9 ((MX m r').map (Ob.ren ids9))=MAc fx k m r':=rfl
theorem zRm(fx:Nat→Option Nat)(k:Option Nat)(m:Img)(r:Raw): Picks (MAc fx k m r) ids9 (MX m r):=rfl
theorem zOG(fx:Nat→Option Nat)(k:Option Nat)(m:Img)(r r':Raw): zDH (zEL (zBa ids10 (MXb m r)) ids10 (MAc fx k m r)) ids10 ((MXb m r').map (Ob.ren ids10))=MAc fx k m r':=rfl
theorem zJ6(fx:Nat→Option Nat)(k:Option Nat)(m:Img)(r:Raw): Picks (MAc fx k m r) ids10 (MXb m r):=rfl
theorem zKe: ids10.Nodup:=by decide
theorem zRn(fx:Nat→Option Nat)(k:Option Nat)(m:Img)(r:Raw): (MAc fx k m r).all (Ob.below (MAc fx k m r).length)=true:=rfl
theorem zBM{fx:Nat→Option Nat}{m:Img}{r r':Raw}{σ:Sl}{η tl:List Ob}(he:η=MA fx m r'++tl)(e:r=r'): zBn #[] .top (MA fx m r) .normal σ η:=by
 subst he e
 exact zCe ⟨rfl,zAV zAd (zHi (q:=tl) rfl rfl rfl rfl rfl rfl (zBW rfl) (zBW rfl) (zBW rfl) rfl) rfl (zL7 fx m r)⟩
theorem zGp{f:FuncId}{fn:Func}{c:Code}{avs:List SV}{m:Img}{r r':Raw}{res:SV}{N:Nat}{rs:Array ResultVar}(hf:Tryz.prog.funcs[f]?=some fn)(hb:fn.body=some c)(hN:fn.ntmps=N)(hrs:fn.results=rs)(hl:Nat.ble avs.length N=true)
  (h:∀(w0:World) (St0:Stab) (X:Nat→Prop) (fx:Nat→Option Nat),awp ⟨Tryz.prog,N,w0,St0,X,0⟩ c (zBn rs res (MAc fx (fx 9) m r')) (zF8 avs 0) (MAc fx (fx 9) m r)):zAW Tryz.prog f avs (MXb m r) res (MXb m r') :=
 zFB hf hb hN hrs hl rfl rfl h
theorem zFm{fx:Nat→Option Nat}{k:Option Nat}{m:Img}{r r':Raw}{σ:Sl}(e:r=r'): zBn #[] .top (MAc fx k m r) .normal σ (MAc fx k m r'):=by
 subst e;exact zCe ⟨rfl,zAV zAd (zB2 _) rfl (zRn fx k m r)⟩
theorem zVr{fx:Nat→Option Nat}{k:Option Nat}{m:Img}{r r':Raw}{σ:Sl}(e:r=r'): zBn #[] .top (MAc fx k m r) .ret σ (MAc fx k m r'):=by
 subst e;exact zC8 ⟨rfl,zAV zAd (zB2 _) rfl (zRn fx k m r)⟩
attribute [local irreducible] zAQ Program.underlying Ylds zBD alex zCA zBi awp zAp zCI zCH zAW zBw zA5 zB0 zBp zBF zBv zB9 zCE zBn zBm zBs
section
variable {N d:Nat}{w0:World}{St0:Stab}{X:Nat→Prop}{ops:Array Oper}{rest:List Oper}{K:Sl→List Ob→Prop}{σ:Sl}{ty:TypeId}{pos:String}{after:Array Edge}{gd:Option (Nat×Bool)}{f:FuncId}{args:List Operand}{ts:Array TypeId}{avs:List SV}{m:Img}{r r':Raw}{res:SV}{fx:Nat→Option Nat}{k:Option Nat}
theorem aVMc(hb:zAQ Tryz.prog f=true)(hc:zAW Tryz.prog f avs (MX m r) res (MX m r'))(ha:SArgs σ ids9 args avs)(hd:Nat.blt d N=true)(hba:avs.all (SV.bel 9)=true)
  (h:alex ⟨Tryz.prog,N,w0,St0,X,0⟩ false ops rest K ((d,res.ren ids9)::zDl (zBa ids9 (MX m r)) ids9 σ) (MAc fx k m r')) :
  zBD ⟨Tryz.prog,N,w0,St0,X,0⟩ false ops ⟨some d,.call ⟨.value (.func f),args.toArray,ts⟩,ty,pos,after,gd⟩ rest K σ (MAc fx k m r):=by
 have hh:=(congrArg (alex ⟨Tryz.prog,N,w0,St0,X,0⟩ false ops rest K ((d,res.ren ids9)::zDl (zBa ids9 (MX m r)) ids9 σ)) (zWz fx k m r r')).mpr h
 refine zGI (C:=⟨Tryz.prog,N,w0,St0,X,0⟩) (η:=MAc fx k m r) ids9 hb hc ha (zRm fx k m r) hd zMe ?_ ?_ ?_ hba ?_ ?_ hh
 ·rfl
 ·rfl
 ·rfl
 ·rfl
 ·rfl
theorem aVMt{η tl tl':List Ob}(hb:zAQ Tryz.prog f=true)(hc:zAW Tryz.prog f avs (MX m r) res (MX m r'))(ha:SArgs σ ids9 args avs)(hd:Nat.blt d N=true)(hba:avs.all (SV.bel 9)=true)
  (he:η=MA fx m r++tl) (hw:zEL (zBa ids9 (MX m r)) ids9 tl=tl')
  (h:alex ⟨Tryz.prog,N,w0,St0,X,0⟩ false ops rest K ((d,res.ren ids9)::zDl (zBa ids9 (MX m r)) ids9 σ) (MA fx m r'++tl')) :
  zBD ⟨Tryz.prog,N,w0,St0,X,0⟩ false ops ⟨some d,.call ⟨.value (.func f),args.toArray,ts⟩,ty,pos,after,gd⟩ rest K σ η:=by
 subst he
 have e:zDH (zEL (zBa ids9 (MX m r)) ids9 (MA fx m r++tl)) ids9 ((MX m r').map (Ob.ren ids9))=MA fx m r'++tl':=by rw[←hw];rfl
 have hh:=(congrArg (alex ⟨Tryz.prog,N,w0,St0,X,0⟩ false ops rest K ((d,res.ren ids9)::zDl (zBa ids9 (MX m r)) ids9 σ)) e).mpr h
 refine zGI (C:=⟨Tryz.prog,N,w0,St0,X,0⟩) (η:=MA fx m r++tl) ids9 hb hc ha ?_ hd zMe ?_ ?_ ?_ hba ?_ ?_ hh
 ·rfl
 ·rfl
 ·rfl
 ·rfl
 ·rfl
 ·rfl
theorem aVMi(hb:zAQ Tryz.prog f=true)(hc:zAW Tryz.prog f avs (MXb m r) res (MXb m r'))(ha:SArgs σ ids10 args avs)(hd:Nat.blt d N=true)(hba:avs.all (SV.bel 10)=true)
  (h:alex ⟨Tryz.prog,N,w0,St0,X,0⟩ false ops rest K ((d,res.ren ids10)::zDl (zBa ids10 (MXb m r)) ids10 σ) (MAc fx k m r')) :
  zBD ⟨Tryz.prog,N,w0,St0,X,0⟩ false ops ⟨some d,.call ⟨.value (.func f),args.toArray,ts⟩,ty,pos,after,gd⟩ rest K σ (MAc fx k m r):=by
 have hh:=(congrArg (alex ⟨Tryz.prog,N,w0,St0,X,0⟩ false ops rest K ((d,res.ren ids10)::zDl (zBa ids10 (MXb m r)) ids10 σ)) (zOG fx k m r r')).mpr h
 refine zGI (C:=⟨Tryz.prog,N,w0,St0,X,0⟩) (η:=MAc fx k m r) ids10 hb hc ha (zJ6 fx k m r) hd zKe ?_ ?_ ?_ hba ?_ ?_ hh
 ·rfl
 ·rfl
 ·rfl
 ·rfl
 ·rfl
theorem aVMf{x:Operand}(hx:oval σ x=.clo f [9])(hb:zAQ Tryz.prog f=true)(hc:zAW Tryz.prog f (avs++[.ptr 9 0]) (MXb m r) res (MXb m r'))(ha:SArgs σ ids10 args avs)(hd:Nat.blt d N=true)(hba:(avs++[SV.ptr 9 0]).all (SV.bel 10)=true)
  (h:alex ⟨Tryz.prog,N,w0,St0,X,0⟩ false ops rest K ((d,res.ren ids10)::zDl (zBa ids10 (MXb m r)) ids10 σ) (MAc fx k m r')) :
  zBD ⟨Tryz.prog,N,w0,St0,X,0⟩ false ops ⟨some d,.call ⟨.value x,args.toArray,ts⟩,ty,pos,after,gd⟩ rest K σ (MAc fx k m r):=by
 have hh:=(congrArg (alex ⟨Tryz.prog,N,w0,St0,X,0⟩ false ops rest K ((d,res.ren ids10)::zDl (zBa ids10 (MXb m r)) ids10 σ)) (zOG fx k m r r')).mpr h
 refine zUc (C:=⟨Tryz.prog,N,w0,St0,X,0⟩) (η:=MAc fx k m r) ids10 [9] hx rfl hb hc ha (zJ6 fx k m r) hd zKe ?_ ?_ ?_ hba ?_ ?_ hh
 ·rfl
 ·rfl
 ·rfl
 ·rfl
 ·rfl
end
structure Tops(r:Raw)(u1 u0:Nat): Prop where
 len:2≤r.stk.length
 top1:r.stk[r.stk.length-1-1]?=some u1
 top0:r.stk[r.stk.length-1-0]?=some u0
 big:r.stk.length≤1048576
theorem ints_ok(m:Img)(r r':Raw){f:FuncId}{u1 u0:Nat}{a b:Int}(hb:zAQ Tryz.prog f=true)(ht:Tops r u1 u0)(h1:zAp Tryz.prog 54 [w64 u1] (.tup [i64 a,bl true]))(h0:zAp Tryz.prog 54 [w64 u0] (.tup [i64 b,bl true]))
  (hF:zAW Tryz.prog f [.d (i64 a),.d (i64 b),.ptr 9 0] (MXb m r) .top (MXb m r')):zAW Tryz.prog 79 [.ptr 0 0,.clo f [9]] (MXb m r) .top (MXb m r'):=by
 obtain⟨h2,hf,hw,hl⟩:=ht
 have hT1:=zBl m r (k:=1) (by omega) hf hl
 have hT0:=zBl m r (k:=0) (by omega) hw hl
 have hN1:=zEA m r h1
 have hN0:=zEA m r h0
 refine zGp Tryz.func79 rfl Tryz.ntmps79 Tryz.results79 rfl ?_
 intro wb St0 X fx
 repeat' first|apply en_n|apply zAK|apply zAA|apply zAF|apply w0|(refine zAZ ids9 [] rfl rfl zAv (hT1) rfl ?_ rfl (by decide) rfl rfl rfl rfl;(repeat (refine zAB rfl ?_));exact zAE)|(refine zAZ ids9 [] rfl rfl zAv (hT0) rfl ?_ rfl (by decide) rfl rfl rfl rfl;(repeat (refine zAB rfl ?_));exact zAE)|(refine zAZ ids9 [] rfl rfl zCN (hN1) rfl ?_ rfl (by decide) rfl rfl rfl rfl;(repeat (refine zAB rfl ?_));exact zAE)|(refine zAZ ids9 [] rfl rfl zCN (hN0) rfl ?_ rfl (by decide) rfl rfl rfl rfl;(repeat (refine zAB rfl ?_));exact zAE)|(refine aVMf (avs:=[.d (i64 a),.d (i64 b)]) rfl hb hF ?_ rfl rfl ?_;(repeat (refine zAB rfl ?_));exact zAE)|apply ay (hd:=rfl)|exact zAJ rfl|exact zAD rfl|exact zBd rfl|exact zAm rfl rfl|exact zAH rfl|exact zAi rfl|(apply zAL;exact rfl)|(apply zAM;exact rfl)|apply zAU
 all_goals exact zFm rfl
theorem zTL(m:Img)(r:Raw){f:FuncId}{u1 u0:Nat}(ht:Tops r u1 u0)(h1:zAp Tryz.prog 54 [w64 u1] (.tup [i64 0,bl false])):
  zAW Tryz.prog 79 [.ptr 0 0,.clo f [9]] (MXb m r) .top (MXb m { r with fin:=4 }):=by
 obtain⟨h2,hf,hw,hl⟩:=ht
 have hT1:=zBl m r (k:=1) (by omega) hf hl
 have hN1:=zFV m r h1
 refine zGp Tryz.func79 rfl Tryz.ntmps79 Tryz.results79 rfl ?_
 intro wb St0 X fx
 repeat' first|apply en_n|apply zAK|apply zAA|apply zAF|apply w0|(refine zAZ ids9 [] rfl rfl zAv (hT1) rfl ?_ rfl (by decide) rfl rfl rfl rfl;(repeat (refine zAB rfl ?_));exact zAE)|(refine aVMc zCN hN1 ?_ rfl rfl ?_;(repeat (refine zAB rfl ?_));exact zAE)|apply ay (hd:=rfl)|exact zAJ rfl|exact zAD rfl|exact zBd rfl|exact zAm rfl rfl|exact zAH rfl|(apply zAL;exact rfl)|apply zAT|apply en_r
 all_goals exact zVr rfl
theorem zTM(m:Img)(r:Raw){f:FuncId}{u1 u0:Nat}{a:Int}(ht:Tops r u1 u0)(h1:zAp Tryz.prog 54 [w64 u1] (.tup [i64 a,bl true]))(h0:zAp Tryz.prog 54 [w64 u0] (.tup [i64 0,bl false])):
  zAW Tryz.prog 79 [.ptr 0 0,.clo f [9]] (MXb m r) .top (MXb m { r with fin:=4 }):=by
 obtain⟨h2,hf,hw,hl⟩:=ht
 have hT1:=zBl m r (k:=1) (by omega) hf hl
 have hT0:=zBl m r (k:=0) (by omega) hw hl
 have hN1:=zEA m r h1
 have hN0:=zFV m r h0
 refine zGp Tryz.func79 rfl Tryz.ntmps79 Tryz.results79 rfl ?_
 intro wb St0 X fx
 repeat' first|apply en_n|apply zAK|apply zAA|apply zAF|apply w0|(refine zAZ ids9 [] rfl rfl zAv (hT1) rfl ?_ rfl (by decide) rfl rfl rfl rfl;(repeat (refine zAB rfl ?_));exact zAE)|(refine zAZ ids9 [] rfl rfl zAv (hT0) rfl ?_ rfl (by decide) rfl rfl rfl rfl;(repeat (refine zAB rfl ?_));exact zAE)|(refine zAZ ids9 [] rfl rfl zCN (hN1) rfl ?_ rfl (by decide) rfl rfl rfl rfl;(repeat (refine zAB rfl ?_));exact zAE)|(refine aVMc zCN hN0 ?_ rfl rfl ?_;(repeat (refine zAB rfl ?_));exact zAE)|apply ay (hd:=rfl)|exact zAJ rfl|exact zAD rfl|exact zBd rfl|exact zAm rfl rfl|exact zAH rfl|(apply zAM;exact rfl)|apply zAU
 all_goals exact zFm rfl
theorem pAdd(m:Img)(r:Raw)(a b:Int)(hl:r.stk.length≤1048576)(h:2≤r.stk.length): zAW Tryz.prog 80 [.d (i64 a),.d (i64 b),.ptr 9 0] (MXb m r) .top (MXb m { r with stk:=r.stk.take (r.stk.length-2)++[nW (W (a+b))] }):=by
 have hN:=zGB m r (n:=2) (W (a+b)) hl h
 refine zGp Tryz.func80 rfl Tryz.ntmps80 Tryz.results80 rfl ?_
 intro wb St0 X fx
 repeat' first|apply zAF|apply w0|(refine zAh zWE (zUy _ _) (zAa rfl (zAa rfl zAR)))|(refine zBr (by kernel_rfl) ?_;refine aVMc zEP hN ?_ rfl rfl ?_;(repeat (refine zAB rfl ?_));exact zAE)|apply ay (hd:=rfl)|exact zAJ rfl|(apply zAG;exact rfl;(with_reducible exact zCb);exact rfl;exact rfl)|refine zAr (by kernel_rfl) (by kernel_rfl) ?_
 all_goals exact zFm rfl
theorem pSub(m:Img)(r:Raw)(a b:Int)(hl:r.stk.length≤1048576)(h:2≤r.stk.length): zAW Tryz.prog 83 [.d (i64 a),.d (i64 b),.ptr 9 0] (MXb m r) .top (MXb m { r with stk:=r.stk.take (r.stk.length-2)++[nW (W (a-b))] }):=by
 have hN:=zGB m r (n:=2) (W (a-b)) hl h
 refine zGp Tryz.func83 rfl Tryz.ntmps83 Tryz.results83 rfl ?_
 intro wb St0 X fx
 repeat' first|apply zAF|apply w0|(refine zAh zWA (zUu _ _) (zAa rfl (zAa rfl zAR)))|(refine zBr (by kernel_rfl) ?_;refine aVMc zEP hN ?_ rfl rfl ?_;(repeat (refine zAB rfl ?_));exact zAE)|apply ay (hd:=rfl)|exact zAJ rfl|(apply zAG;exact rfl;(with_reducible exact zCb);exact rfl;exact rfl)|refine zAr (by kernel_rfl) (by kernel_rfl) ?_
 all_goals exact zFm rfl
theorem pMul(m:Img)(r:Raw)(a b:Int)(hl:r.stk.length≤1048576)(h:2≤r.stk.length): zAW Tryz.prog 85 [.d (i64 a),.d (i64 b),.ptr 9 0] (MXb m r) .top (MXb m { r with stk:=r.stk.take (r.stk.length-2)++[nW (W (a*b))] }):=by
 have hN:=zGB m r (n:=2) (W (a*b)) hl h
 refine zGp Tryz.func85 rfl Tryz.ntmps85 Tryz.results85 rfl ?_
 intro wb St0 X fx
 repeat' first|apply zAF|apply w0|(refine zAh zWB (zUv _ _) (zAa rfl (zAa rfl zAR)))|(refine zBr (by kernel_rfl) ?_;refine aVMc zEP hN ?_ rfl rfl ?_;(repeat (refine zAB rfl ?_));exact zAE)|apply ay (hd:=rfl)|exact zAJ rfl|(apply zAG;exact rfl;(with_reducible exact zCb);exact rfl;exact rfl)|refine zAr (by kernel_rfl) (by kernel_rfl) ?_
 all_goals exact zFm rfl
theorem pDiv(m:Img)(r r':Raw)(a b:Int)(hW:zAW Tryz.prog 88 [.ptr 0 0,.d (i64 (divV a b)),.d (i64 (zOK b))] (MX m r) .top (MX m r')): zAW Tryz.prog 87 [.d (i64 a),.d (i64 b),.ptr 9 0] (MXb m r) .top (MXb m r'):=by
 refine zGp Tryz.func87 rfl Tryz.ntmps87 Tryz.results87 rfl ?_
 intro wb St0 X fx
 repeat' first|apply zAF|apply w0|(refine zAh zWD (zUx _ _) (zAa rfl (zAa rfl zAR)))|(refine zBr (by kernel_rfl) ?_;refine aVMc zJC hW ?_ rfl rfl ?_;(repeat (refine zAB rfl ?_));exact zAE)|apply ay (hd:=rfl)|exact zAJ rfl|exact zAm rfl rfl|(apply zAG;exact rfl;(with_reducible exact zCb);exact rfl;exact rfl)|refine zAr (by kernel_rfl) (by kernel_rfl) ?_
 all_goals exact zFm rfl
theorem pMod(m:Img)(r r':Raw)(a b:Int)(hW:zAW Tryz.prog 88 [.ptr 0 0,.d (i64 (modV a b)),.d (i64 (zOK b))] (MX m r) .top (MX m r')): zAW Tryz.prog 90 [.d (i64 a),.d (i64 b),.ptr 9 0] (MXb m r) .top (MXb m r'):=by
 refine zGp Tryz.func90 rfl Tryz.ntmps90 Tryz.results90 rfl ?_
 intro wb St0 X fx
 repeat' first|apply zAF|apply w0|(refine zAh zWC (zUw _ _) (zAa rfl (zAa rfl zAR)))|(refine zBr (by kernel_rfl) ?_;refine aVMc zJC hW ?_ rfl rfl ?_;(repeat (refine zAB rfl ?_));exact zAE)|apply ay (hd:=rfl)|exact zAJ rfl|exact zAm rfl rfl|(apply zAG;exact rfl;(with_reducible exact zCb);exact rfl;exact rfl)|refine zAr (by kernel_rfl) (by kernel_rfl) ?_
 all_goals exact zFm rfl
theorem pEq(m:Img)(r:Raw)(a b:Int)(hl:r.stk.length≤1048576)(h:2≤r.stk.length): zAW Tryz.prog 92 [.d (i64 a),.d (i64 b),.ptr 9 0] (MXb m r) .top (MXb m { r with stk:=r.stk.take (r.stk.length-2)++[nW (if decide (a=b)then 1 else 0)] }):=by
 have hN:=zUY m r (decide (a=b)) hl h
 refine zGp Tryz.func92 rfl Tryz.ntmps92 Tryz.results92 rfl ?_
 intro wb St0 X fx
 repeat' first|apply zAA|apply zAF|apply w0|(refine aVMc zLY hN ?_ rfl rfl ?_;(repeat (refine zAB rfl ?_));exact zAE)|apply ay (hd:=rfl)|exact zAJ rfl|exact zGM rfl rfl|(apply zAG;exact rfl;(with_reducible exact zCb);exact rfl;exact rfl)
 all_goals exact zFm rfl
theorem zY6(m:Img)(r:Raw)(a b:Int)(hl:r.stk.length≤1048576)(h:2≤r.stk.length): zAW Tryz.prog 94 [.d (i64 a),.d (i64 b),.ptr 9 0] (MXb m r) .top (MXb m { r with stk:=r.stk.take (r.stk.length-2)++[nW (if decide (a<b)then 1 else 0)] }):=by
 have hN:=zUY m r (decide (a<b)) hl h
 refine zGp Tryz.func94 rfl Tryz.ntmps94 Tryz.results94 rfl ?_
 intro wb St0 X fx
 repeat' first|apply zAA|apply zAF|apply w0|(refine aVMc zLY hN ?_ rfl rfl ?_;(repeat (refine zAB rfl ?_));exact zAE)|apply ay (hd:=rfl)|exact zAJ rfl|exact zGm rfl rfl|(apply zAG;exact rfl;(with_reducible exact zCb);exact rfl;exact rfl)
 all_goals exact zFm rfl
end Go.Proofs.YtcagoomibpcdlaaGreatDoor
