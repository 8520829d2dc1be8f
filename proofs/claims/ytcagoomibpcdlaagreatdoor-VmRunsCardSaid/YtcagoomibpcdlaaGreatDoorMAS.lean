import Derived.Test.YtcagoomibpcdlaaGreatDoorMAQ
set_option maxHeartbeats 16000000
namespace Go.Proofs.YtcagoomibpcdlaaGreatDoor
open _root_.Go.Proofs.Tryz
open Go.Sx Go.Vm
abbrev MXb(m:Img)(r:Raw): List Ob:=MX m r++[.box [.ptr 0 0]]
def MAc(fx:Nat->Option Nat)(k:Option Nat)(m:Img)(r:Raw): List Ob:=MA fx m r++[.bx k none [.ptr 0 0]]
abbrev ids10: List Nat:=[0,1,2,3,4,5,6,7,8,9]
theorem zb7(fx:Nat->Option Nat)(k:Option Nat)(m:Img)(r r':Raw): zD6 (zFT (zB2 ids9 (MX m r)) ids9 (MAc fx k m r)) ids9 ((MX m r').map (Ob.ren ids9))=MAc fx k m r':=rfl
theorem zV8(fx:Nat->Option Nat)(k:Option Nat)(m:Img)(r:Raw): Picks (MAc fx k m r) ids9 (MX m r):=rfl
theorem zRr(fx:Nat->Option Nat)(k:Option Nat)(m:Img)(r r':Raw): zD6 (zFT (zB2 ids10 (MXb m r)) ids10 (MAc fx k m r)) ids10 ((MXb m r').map (Ob.ren ids10))=MAc fx k m r':=rfl
theorem zMe(fx:Nat->Option Nat)(k:Option Nat)(m:Img)(r:Raw): Picks (MAc fx k m r) ids10 (MXb m r):=rfl
theorem zNH: ids10.Nodup:=by decide
theorem zV9(fx:Nat->Option Nat)(k:Option Nat)(m:Img)(r:Raw): (MAc fx k m r).all (Ob.below (MAc fx k m r).length)=true:=rfl
theorem zCy{fx:Nat->Option Nat}{m:Img}{r r':Raw}{σ:Sl}{η tl:List Ob}(he:η=MA fx m r'++tl)(e:r=r'): zBM #[] .top (MA fx m r) .normal σ η:=by
 subst he e
 exact zC5 ⟨rfl,zAU Le_nil (zJj (q:=tl) rfl rfl rfl rfl rfl rfl (zBs rfl) (zBs rfl) (zBs rfl) rfl) rfl (zPN fx m r)⟩
theorem zIf{f:FuncId}{fn:Func}{c:Code}{avs:List SV}{m:Img}{r r':Raw}{res:SV}{N:Nat}{rs:Array ResultVar}(hf:prog.funcs[f]?=some fn)(hb:fn.body=some c)(hN:fn.ntmps=N)(hrs:fn.results=rs)(hl:Nat.ble avs.length N=true)
  (h:∀(w0:World) (St0:Stab) (X:Nat->Prop) (fx:Nat->Option Nat),awp ⟨prog,N,w0,St0,X,0⟩ c (zBM rs res (MAc fx (fx 9) m r')) (zHx avs 0) (MAc fx (fx 9) m r)):zAW prog f avs (MXb m r) res (MXb m r') :=
 zEh hf hb hN hrs hl rfl rfl h
theorem zHQ{fx:Nat->Option Nat}{k:Option Nat}{m:Img}{r r':Raw}{σ:Sl}(e:r=r'): zBM #[] .top (MAc fx k m r) .normal σ (MAc fx k m r'):=by
 subst e;exact zC5 ⟨rfl,zAU Le_nil (zA4 _) rfl (zV9 fx k m r)⟩
theorem zaw{fx:Nat->Option Nat}{k:Option Nat}{m:Img}{r r':Raw}{σ:Sl}(e:r=r'): zBM #[] .top (MAc fx k m r) .ret σ (MAc fx k m r'):=by
 subst e;exact zDe ⟨rfl,zAU Le_nil (zA4 _) rfl (zV9 fx k m r)⟩
attribute [local irreducible] zAL Program.underlying Ylds zA2 alex zBZ zBP awp zAb zBh zBg zAW zBF zAp zBG zBR zAr zBV zBY zBe zBM zA8 zBE
section
variable {N d:Nat}{w0:World}{St0:Stab}{X:Nat->Prop}{ops:Array Oper}{rest:List Oper}{K:Sl->List Ob->Prop}{σ:Sl}{ty:TypeId}{pos:String}{after:Array Edge}{gd:Option (Nat×Bool)}{f:FuncId}{args:List Operand}{ts:Array TypeId}{avs:List SV}{m:Img}{r r':Raw}{res:SV}{fx:Nat->Option Nat}{k:Option Nat}
theorem aVMc(hb:zAL prog f=true)(hc:zAW prog f avs (MX m r) res (MX m r'))(ha:SArgs σ ids9 args avs)(hd:Nat.blt d N=true)(hba:avs.all (SV.bel 9)=true)
  (h:alex ⟨prog,N,w0,St0,X,0⟩ false ops rest K ((d,res.ren ids9)::zEl (zB2 ids9 (MX m r)) ids9 σ) (MAc fx k m r')) :
  zA2 ⟨prog,N,w0,St0,X,0⟩ false ops ⟨some d,.call ⟨.value (.func f),args.toArray,ts⟩,ty,pos,after,gd⟩ rest K σ (MAc fx k m r):=by
 have hh:=(congrArg (alex ⟨prog,N,w0,St0,X,0⟩ false ops rest K ((d,res.ren ids9)::zEl (zB2 ids9 (MX m r)) ids9 σ)) (zb7 fx k m r r')).mpr h
 refine zHi (C:=⟨prog,N,w0,St0,X,0⟩) (η:=MAc fx k m r) ids9 hb hc ha (zV8 fx k m r) hd zPy ?_ ?_ ?_ hba ?_ ?_ hh
 ·rfl
 ·rfl
 ·rfl
 ·rfl
 ·rfl
theorem aVMt{η tl tl':List Ob}(hb:zAL prog f=true)(hc:zAW prog f avs (MX m r) res (MX m r'))(ha:SArgs σ ids9 args avs)(hd:Nat.blt d N=true)(hba:avs.all (SV.bel 9)=true)
  (he:η=MA fx m r++tl) (hw:zFT (zB2 ids9 (MX m r)) ids9 tl=tl')
  (h:alex ⟨prog,N,w0,St0,X,0⟩ false ops rest K ((d,res.ren ids9)::zEl (zB2 ids9 (MX m r)) ids9 σ) (MA fx m r'++tl')) :
  zA2 ⟨prog,N,w0,St0,X,0⟩ false ops ⟨some d,.call ⟨.value (.func f),args.toArray,ts⟩,ty,pos,after,gd⟩ rest K σ η:=by
 subst he
 have e:zD6 (zFT (zB2 ids9 (MX m r)) ids9 (MA fx m r++tl)) ids9 ((MX m r').map (Ob.ren ids9))=MA fx m r'++tl':=by rw[<-hw];rfl
 have hh:=(congrArg (alex ⟨prog,N,w0,St0,X,0⟩ false ops rest K ((d,res.ren ids9)::zEl (zB2 ids9 (MX m r)) ids9 σ)) e).mpr h
 refine zHi (C:=⟨prog,N,w0,St0,X,0⟩) (η:=MA fx m r++tl) ids9 hb hc ha ?_ hd zPy ?_ ?_ ?_ hba ?_ ?_ hh
 ·rfl
 ·rfl
 ·rfl
 ·rfl
 ·rfl
 ·rfl
theorem aVMtA{η tl tl':List Ob}(hb:zAL prog f=true)(hc:zAW prog f avs (MX m r) res (MX m r'))(h:alex ⟨prog,N,w0,St0,X,0⟩ false ops rest K ((d,res.ren ids9)::zEl (zB2 ids9 (MX m r)) ids9 σ) (MA fx m r'++tl'))(ha:SArgs σ ids9 args avs:=by exact SArgs_all rfl)(hd:Nat.blt d N=true:=by exact rfl)(hba:avs.all (SV.bel 9)=true:=by exact rfl)(he:η=MA fx m r++tl:=by exact rfl)(hw:zFT (zB2 ids9 (MX m r)) ids9 tl=tl':=by exact rfl): zA2 ⟨prog,N,w0,St0,X,0⟩ false ops ⟨some d,.call ⟨.value (.func f),args.toArray,ts⟩,ty,pos,after,gd⟩ rest K σ η:=aVMt hb hc ha hd hba he hw h
theorem aVMi(hb:zAL prog f=true)(hc:zAW prog f avs (MXb m r) res (MXb m r'))(ha:SArgs σ ids10 args avs)(hd:Nat.blt d N=true)(hba:avs.all (SV.bel 10)=true)
  (h:alex ⟨prog,N,w0,St0,X,0⟩ false ops rest K ((d,res.ren ids10)::zEl (zB2 ids10 (MXb m r)) ids10 σ) (MAc fx k m r')) :
  zA2 ⟨prog,N,w0,St0,X,0⟩ false ops ⟨some d,.call ⟨.value (.func f),args.toArray,ts⟩,ty,pos,after,gd⟩ rest K σ (MAc fx k m r):=by
 have hh:=(congrArg (alex ⟨prog,N,w0,St0,X,0⟩ false ops rest K ((d,res.ren ids10)::zEl (zB2 ids10 (MXb m r)) ids10 σ)) (zRr fx k m r r')).mpr h
 refine zHi (C:=⟨prog,N,w0,St0,X,0⟩) (η:=MAc fx k m r) ids10 hb hc ha (zMe fx k m r) hd zNH ?_ ?_ ?_ hba ?_ ?_ hh
 ·rfl
 ·rfl
 ·rfl
 ·rfl
 ·rfl
theorem aVMf{x:Operand}(hx:oval σ x=.clo f [9])(hb:zAL prog f=true)(hc:zAW prog f (avs++[.ptr 9 0]) (MXb m r) res (MXb m r'))(ha:SArgs σ ids10 args avs)(hd:Nat.blt d N=true)(hba:(avs++[SV.ptr 9 0]).all (SV.bel 10)=true)
  (h:alex ⟨prog,N,w0,St0,X,0⟩ false ops rest K ((d,res.ren ids10)::zEl (zB2 ids10 (MXb m r)) ids10 σ) (MAc fx k m r')) :
  zA2 ⟨prog,N,w0,St0,X,0⟩ false ops ⟨some d,.call ⟨.value x,args.toArray,ts⟩,ty,pos,after,gd⟩ rest K σ (MAc fx k m r):=by
 have hh:=(congrArg (alex ⟨prog,N,w0,St0,X,0⟩ false ops rest K ((d,res.ren ids10)::zEl (zB2 ids10 (MXb m r)) ids10 σ)) (zRr fx k m r r')).mpr h
 refine zZE (C:=⟨prog,N,w0,St0,X,0⟩) (η:=MAc fx k m r) ids10 [9] hx rfl hb hc ha (zMe fx k m r) hd zNH ?_ ?_ ?_ hba ?_ ?_ hh
 ·rfl
 ·rfl
 ·rfl
 ·rfl
 ·rfl
end
structure Tops(r:Raw)(u1 u0:Nat): Prop where
 len:2<=r.stk.length
 top1:r.stk[r.stk.length-1-1]?=some u1
 top0:r.stk[r.stk.length-1-0]?=some u0
 big:r.stk.length<=1048576
theorem ints_ok(m:Img)(r r':Raw){f:FuncId}{u1 u0:Nat}{a b:Int}(hb:zAL prog f=true)(ht:Tops r u1 u0)(h1:zAb prog 54 [w64 u1] (.tup [i64 a,bl true]))(h0:zAb prog 54 [w64 u0] (.tup [i64 b,bl true]))
  (hF:zAW prog f [.d (i64 a),.d (i64 b),.ptr 9 0] (MXb m r) .top (MXb m r')):zAW prog 79 [.ptr 0 0,.clo f [9]] (MXb m r) .top (MXb m r'):=by
 obtain⟨h2,hf,hw,hl⟩:=ht
 have hT1:=zCH m r (k:=1) (by omega) hf hl
 have hT0:=zCH m r (k:=0) (by omega) hw hl
 have hN1:=zFH m r h1
 have hN0:=zFH m r h0
 refine zIf func79 rfl ntmps79 results79 rfl ?_
 intro wb St0 X fx
 exact yM
theorem zXn(m:Img)(r:Raw){f:FuncId}{u1 u0:Nat}(ht:Tops r u1 u0)(h1:zAb prog 54 [w64 u1] (.tup [i64 0,bl false])):
  zAW prog 79 [.ptr 0 0,.clo f [9]] (MXb m r) .top (MXb m { r with fin:=4 }):=by
 obtain⟨h2,hf,hw,hl⟩:=ht
 have hT1:=zCH m r (k:=1) (by omega) hf hl
 have hN1:=zG9 m r h1
 refine zIf func79 rfl ntmps79 results79 rfl ?_
 intro wb St0 X fx
 exact yU
theorem zXo(m:Img)(r:Raw){f:FuncId}{u1 u0:Nat}{a:Int}(ht:Tops r u1 u0)(h1:zAb prog 54 [w64 u1] (.tup [i64 a,bl true]))(h0:zAb prog 54 [w64 u0] (.tup [i64 0,bl false])):
  zAW prog 79 [.ptr 0 0,.clo f [9]] (MXb m r) .top (MXb m { r with fin:=4 }):=by
 obtain⟨h2,hf,hw,hl⟩:=ht
 have hT1:=zCH m r (k:=1) (by omega) hf hl
 have hT0:=zCH m r (k:=0) (by omega) hw hl
 have hN1:=zFH m r h1
 have hN0:=zG9 m r h0
 refine zIf func79 rfl ntmps79 results79 rfl ?_
 intro wb St0 X fx
 exact yU
theorem pAdd(m:Img)(r:Raw)(a b:Int)(hl:r.stk.length<=1048576)(h:2<=r.stk.length): zAW prog 80 [.d (i64 a),.d (i64 b),.ptr 9 0] (MXb m r) .top (MXb m { r with stk:=r.stk.take (r.stk.length-2)++[nW (W (a+b))] }):=by
 have hN:=zH0 m r (n:=2) (W (a+b)) hl h
 refine zIf func80 rfl ntmps80 results80 rfl ?_
 intro wb St0 X fx
 exact yR
theorem pSub(m:Img)(r:Raw)(a b:Int)(hl:r.stk.length<=1048576)(h:2<=r.stk.length): zAW prog 83 [.d (i64 a),.d (i64 b),.ptr 9 0] (MXb m r) .top (MXb m { r with stk:=r.stk.take (r.stk.length-2)++[nW (W (a-b))] }):=by
 have hN:=zH0 m r (n:=2) (W (a-b)) hl h
 refine zIf func83 rfl ntmps83 results83 rfl ?_
 intro wb St0 X fx
 exact yR
theorem pMul(m:Img)(r:Raw)(a b:Int)(hl:r.stk.length<=1048576)(h:2<=r.stk.length): zAW prog 85 [.d (i64 a),.d (i64 b),.ptr 9 0] (MXb m r) .top (MXb m { r with stk:=r.stk.take (r.stk.length-2)++[nW (W (a*b))] }):=by
 have hN:=zH0 m r (n:=2) (W (a*b)) hl h
 refine zIf func85 rfl ntmps85 results85 rfl ?_
 intro wb St0 X fx
 exact yR
theorem pDiv(m:Img)(r r':Raw)(a b:Int)(hW:zAW prog 88 [.ptr 0 0,.d (i64 (divV a b)),.d (i64 (zRw b))] (MX m r) .top (MX m r')): zAW prog 87 [.d (i64 a),.d (i64 b),.ptr 9 0] (MXb m r) .top (MXb m r'):=by
 refine zIf func87 rfl ntmps87 results87 rfl ?_
 intro wb St0 X fx
 exact yR
theorem pMod(m:Img)(r r':Raw)(a b:Int)(hW:zAW prog 88 [.ptr 0 0,.d (i64 (modV a b)),.d (i64 (zRw b))] (MX m r) .top (MX m r')): zAW prog 90 [.d (i64 a),.d (i64 b),.ptr 9 0] (MXb m r) .top (MXb m r'):=by
 refine zIf func90 rfl ntmps90 results90 rfl ?_
 intro wb St0 X fx
 exact yR
theorem pEq(m:Img)(r:Raw)(a b:Int)(hl:r.stk.length<=1048576)(h:2<=r.stk.length): zAW prog 92 [.d (i64 a),.d (i64 b),.ptr 9 0] (MXb m r) .top (MXb m { r with stk:=r.stk.take (r.stk.length-2)++[nW (if decide (a=b)then 1 else 0)] }):=by
 have hN:=zY9 m r (decide (a=b)) hl h
 refine zIf func92 rfl ntmps92 results92 rfl ?_
 intro wb St0 X fx
 exact yR
theorem zeh(m:Img)(r:Raw)(a b:Int)(hl:r.stk.length<=1048576)(h:2<=r.stk.length): zAW prog 94 [.d (i64 a),.d (i64 b),.ptr 9 0] (MXb m r) .top (MXb m { r with stk:=r.stk.take (r.stk.length-2)++[nW (if decide (a<b)then 1 else 0)] }):=by
 have hN:=zY9 m r (decide (a<b)) hl h
 refine zIf func94 rfl ntmps94 results94 rfl ?_
 intro wb St0 X fx
 exact yZ
