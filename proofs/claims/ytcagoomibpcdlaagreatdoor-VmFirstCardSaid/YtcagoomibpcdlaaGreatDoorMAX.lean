/- Parts of the proof. -/
import Derived.Test.YtcagoomibpcdlaaGreatDoorMAW
set_option maxHeartbeats 16000000
namespace Go.Proofs.YtcagoomibpcdlaaGreatDoor
open _root_.Go.Proofs.Tryz
open Go.Sx Go.Vm
abbrev MXb(m:Img)(r:Raw): List Ob:=MX m r++[.box [.ptr 0 0]]
def MAc(fx:Nat->Option Nat)(k:Option Nat)(m:Img)(r:Raw): List Ob:=MA fx m r++[.bx k none [.ptr 0 0]]
abbrev ids10: List Nat:=[0,1,2,3,4,5,6,7,8,9]
theorem zXq(fx:Nat->Option Nat)(k:Option Nat)(m:Img)(r r':Raw): zDR (zEU (zBa ids9 (MX m r)) ids9 (MAc fx k m r)) ids9 ((MX m r').map (Ob.ren ids9))=MAc fx k m r':=rfl
theorem zSQ(fx:Nat->Option Nat)(k:Option Nat)(m:Img)(r:Raw): Picks (MAc fx k m r) ids9 (MX m r):=rfl
theorem zOr(fx:Nat->Option Nat)(k:Option Nat)(m:Img)(r r':Raw): zDR (zEU (zBa ids10 (MXb m r)) ids10 (MAc fx k m r)) ids10 ((MXb m r').map (Ob.ren ids10))=MAc fx k m r':=rfl
theorem zKR(fx:Nat->Option Nat)(k:Option Nat)(m:Img)(r:Raw): Picks (MAc fx k m r) ids10 (MXb m r):=rfl
theorem zKz: ids10.Nodup:=by decide
theorem zSR(fx:Nat->Option Nat)(k:Option Nat)(m:Img)(r:Raw): (MAc fx k m r).all (Ob.below (MAc fx k m r).length)=true:=rfl
theorem zBK{fx:Nat->Option Nat}{m:Img}{r r':Raw}{σ:Sl}{η tl:List Ob}(he:η=MA fx m r'++tl)(e:r=r'): zBi #[] .top (MA fx m r) .normal σ η:=by
 subst he e
 exact zCj ⟨rfl,zAT Le_nil (zHy (q:=tl) rfl rfl rfl rfl rfl rfl (zBU rfl) (zBU rfl) (zBU rfl) rfl) rfl (zMZ fx m r)⟩
theorem zG6{f:FuncId}{fn:Func}{c:Code}{avs:List SV}{m:Img}{r r':Raw}{res:SV}{N:Nat}{rs:Array ResultVar}(hf:prog.funcs[f]?=some fn)(hb:fn.body=some c)(hN:fn.ntmps=N)(hrs:fn.results=rs)(hl:Nat.ble avs.length N=true)
  (h:∀(w0:World) (St0:Stab) (X:Nat->Prop) (fx:Nat->Option Nat),awp ⟨prog,N,w0,St0,X,0⟩ c (zBi rs res (MAc fx (fx 9) m r')) (zGT avs 0) (MAc fx (fx 9) m r)):zAU prog f avs (MXb m r) res (MXb m r') :=
 zFR hf hb hN hrs hl rfl rfl h
theorem zF4{fx:Nat->Option Nat}{k:Option Nat}{m:Img}{r r':Raw}{σ:Sl}(e:r=r'): zBi #[] .top (MAc fx k m r) .normal σ (MAc fx k m r'):=by
 subst e;exact zCj ⟨rfl,zAT Le_nil (zB5 _) rfl (zSR fx k m r)⟩
theorem zWj{fx:Nat->Option Nat}{k:Option Nat}{m:Img}{r r':Raw}{σ:Sl}(e:r=r'): zBi #[] .top (MAc fx k m r) .ret σ (MAc fx k m r'):=by
 subst e;exact zDF ⟨rfl,zAT Le_nil (zB5 _) rfl (zSR fx k m r)⟩
attribute [local irreducible] zAN Program.underlying Ylds zA9 alex zB3 zBf awp zAi zCC zCB zAU zBl zAz zBq zBj zBB zBr zB2 zB8 zBi zBd zBg
section
variable {N d:Nat}{w0:World}{St0:Stab}{X:Nat->Prop}{ops:Array Oper}{rest:List Oper}{K:Sl->List Ob->Prop}{σ:Sl}{ty:TypeId}{pos:String}{after:Array Edge}{gd:Option (Nat×Bool)}{f:FuncId}{args:List Operand}{ts:Array TypeId}{avs:List SV}{m:Img}{r r':Raw}{res:SV}{fx:Nat->Option Nat}{k:Option Nat}
theorem aVMc(hb:zAN prog f=true)(hc:zAU prog f avs (MX m r) res (MX m r'))(ha:SArgs σ ids9 args avs)(hd:Nat.blt d N=true)(hba:avs.all (SV.bel 9)=true)
  (h:alex ⟨prog,N,w0,St0,X,0⟩ false ops rest K ((d,res.ren ids9)::zDx (zBa ids9 (MX m r)) ids9 σ) (MAc fx k m r')) :
  zA9 ⟨prog,N,w0,St0,X,0⟩ false ops ⟨some d,.call ⟨.value (.func f),args.toArray,ts⟩,ty,pos,after,gd⟩ rest K σ (MAc fx k m r):=by
 have hh:=(congrArg (alex ⟨prog,N,w0,St0,X,0⟩ false ops rest K ((d,res.ren ids9)::zDx (zBa ids9 (MX m r)) ids9 σ)) (zXq fx k m r r')).mpr h
 refine zGc (C:=⟨prog,N,w0,St0,X,0⟩) (η:=MAc fx k m r) ids9 hb hc ha (zSQ fx k m r) hd zM9 ?_ ?_ ?_ hba ?_ ?_ hh
 ·rfl
 ·rfl
 ·rfl
 ·rfl
 ·rfl
theorem aVMt{η tl tl':List Ob}(hb:zAN prog f=true)(hc:zAU prog f avs (MX m r) res (MX m r'))(ha:SArgs σ ids9 args avs)(hd:Nat.blt d N=true)(hba:avs.all (SV.bel 9)=true)
  (he:η=MA fx m r++tl) (hw:zEU (zBa ids9 (MX m r)) ids9 tl=tl')
  (h:alex ⟨prog,N,w0,St0,X,0⟩ false ops rest K ((d,res.ren ids9)::zDx (zBa ids9 (MX m r)) ids9 σ) (MA fx m r'++tl')) :
  zA9 ⟨prog,N,w0,St0,X,0⟩ false ops ⟨some d,.call ⟨.value (.func f),args.toArray,ts⟩,ty,pos,after,gd⟩ rest K σ η:=by
 subst he
 have e:zDR (zEU (zBa ids9 (MX m r)) ids9 (MA fx m r++tl)) ids9 ((MX m r').map (Ob.ren ids9))=MA fx m r'++tl':=by rw[<-hw];rfl
 have hh:=(congrArg (alex ⟨prog,N,w0,St0,X,0⟩ false ops rest K ((d,res.ren ids9)::zDx (zBa ids9 (MX m r)) ids9 σ)) e).mpr h
 refine zGc (C:=⟨prog,N,w0,St0,X,0⟩) (η:=MA fx m r++tl) ids9 hb hc ha ?_ hd zM9 ?_ ?_ ?_ hba ?_ ?_ hh
 ·rfl
 ·rfl
 ·rfl
 ·rfl
 ·rfl
 ·rfl
theorem aVMi(hb:zAN prog f=true)(hc:zAU prog f avs (MXb m r) res (MXb m r'))(ha:SArgs σ ids10 args avs)(hd:Nat.blt d N=true)(hba:avs.all (SV.bel 10)=true)
  (h:alex ⟨prog,N,w0,St0,X,0⟩ false ops rest K ((d,res.ren ids10)::zDx (zBa ids10 (MXb m r)) ids10 σ) (MAc fx k m r')) :
  zA9 ⟨prog,N,w0,St0,X,0⟩ false ops ⟨some d,.call ⟨.value (.func f),args.toArray,ts⟩,ty,pos,after,gd⟩ rest K σ (MAc fx k m r):=by
 have hh:=(congrArg (alex ⟨prog,N,w0,St0,X,0⟩ false ops rest K ((d,res.ren ids10)::zDx (zBa ids10 (MXb m r)) ids10 σ)) (zOr fx k m r r')).mpr h
 refine zGc (C:=⟨prog,N,w0,St0,X,0⟩) (η:=MAc fx k m r) ids10 hb hc ha (zKR fx k m r) hd zKz ?_ ?_ ?_ hba ?_ ?_ hh
 ·rfl
 ·rfl
 ·rfl
 ·rfl
 ·rfl
theorem aVMf{x:Operand}(hx:oval σ x=.clo f [9])(hb:zAN prog f=true)(hc:zAU prog f (avs++[.ptr 9 0]) (MXb m r) res (MXb m r'))(ha:SArgs σ ids10 args avs)(hd:Nat.blt d N=true)(hba:(avs++[SV.ptr 9 0]).all (SV.bel 10)=true)
  (h:alex ⟨prog,N,w0,St0,X,0⟩ false ops rest K ((d,res.ren ids10)::zDx (zBa ids10 (MXb m r)) ids10 σ) (MAc fx k m r')) :
  zA9 ⟨prog,N,w0,St0,X,0⟩ false ops ⟨some d,.call ⟨.value x,args.toArray,ts⟩,ty,pos,after,gd⟩ rest K σ (MAc fx k m r):=by
 have hh:=(congrArg (alex ⟨prog,N,w0,St0,X,0⟩ false ops rest K ((d,res.ren ids10)::zDx (zBa ids10 (MXb m r)) ids10 σ)) (zOr fx k m r r')).mpr h
 refine zVL (C:=⟨prog,N,w0,St0,X,0⟩) (η:=MAc fx k m r) ids10 [9] hx rfl hb hc ha (zKR fx k m r) hd zKz ?_ ?_ ?_ hba ?_ ?_ hh
 ·rfl
 ·rfl
 ·rfl
 ·rfl
 ·rfl
end
structure Tops(r:Raw)(u1 u0:Nat): Prop where
 len:2<=r.stk.length
 top1:r.stk[r.stk.length-1-1]?=some u1
 top0:r.stk[r.stk.length-1-0]?=some u0
 big:r.stk.length<=1048576
theorem ints_ok(m:Img)(r r':Raw){f:FuncId}{u1 u0:Nat}{a b:Int}(hb:zAN prog f=true)(ht:Tops r u1 u0)(h1:zAi prog 54 [w64 u1] (.tup [i64 a,bl true]))(h0:zAi prog 54 [w64 u0] (.tup [i64 b,bl true]))
  (hF:zAU prog f [.d (i64 a),.d (i64 b),.ptr 9 0] (MXb m r) .top (MXb m r')):zAU prog 79 [.ptr 0 0,.clo f [9]] (MXb m r) .top (MXb m r'):=by
 obtain⟨h2,hf,hw,hl⟩:=ht
 have hT1:=zBt m r (k:=1) (by omega) hf hl
 have hT0:=zBt m r (k:=0) (by omega) hw hl
 have hN1:=zEL m r h1
 have hN0:=zEL m r h0
 refine zG6 func79 rfl ntmps79 results79 rfl ?_
 intro wb St0 X fx
 repeat' first|apply en_n|apply zAH|apply zAA|apply zAD|apply w0|(refine zAW ids9 [] rfl rfl zAr (hT1) rfl (SArgs_all rfl) rfl (by decide) rfl rfl rfl rfl)|(refine zAW ids9 [] rfl rfl zAr (hT0) rfl (SArgs_all rfl) rfl (by decide) rfl rfl rfl rfl)|(refine zAW ids9 [] rfl rfl zCN (hN1) rfl (SArgs_all rfl) rfl (by decide) rfl rfl rfl rfl)|(refine zAW ids9 [] rfl rfl zCN (hN0) rfl (SArgs_all rfl) rfl (by decide) rfl rfl rfl rfl)|(refine aVMf (avs:=[.d (i64 a),.d (i64 b)]) rfl hb hF (SArgs_all rfl) rfl rfl ?_)|apply ay (hd:=rfl)|exact zAF rfl|exact zAB rfl|exact zBX rfl|exact zAg rfl rfl|exact zAG rfl|exact zAf rfl|refine zAI rfl ?_|refine zAJ rfl ?_|apply zAS
 all_goals exact zF4 rfl
theorem zT2(m:Img)(r:Raw){f:FuncId}{u1 u0:Nat}(ht:Tops r u1 u0)(h1:zAi prog 54 [w64 u1] (.tup [i64 0,bl false])):
  zAU prog 79 [.ptr 0 0,.clo f [9]] (MXb m r) .top (MXb m { r with fin:=4 }):=by
 obtain⟨h2,hf,hw,hl⟩:=ht
 have hT1:=zBt m r (k:=1) (by omega) hf hl
 have hN1:=zFo m r h1
 refine zG6 func79 rfl ntmps79 results79 rfl ?_
 intro wb St0 X fx
 repeat' first|apply en_n|apply zAH|apply zAA|apply zAD|apply w0|(refine zAW ids9 [] rfl rfl zAr (hT1) rfl (SArgs_all rfl) rfl (by decide) rfl rfl rfl rfl)|(refine aVMc zCN hN1 (SArgs_all rfl) rfl rfl ?_)|apply ay (hd:=rfl)|exact zAF rfl|exact zAB rfl|exact zBX rfl|exact zAg rfl rfl|exact zAG rfl|refine zAI rfl ?_|apply zAQ|apply en_r
 all_goals exact zWj rfl
theorem zT3(m:Img)(r:Raw){f:FuncId}{u1 u0:Nat}{a:Int}(ht:Tops r u1 u0)(h1:zAi prog 54 [w64 u1] (.tup [i64 a,bl true]))(h0:zAi prog 54 [w64 u0] (.tup [i64 0,bl false])):
  zAU prog 79 [.ptr 0 0,.clo f [9]] (MXb m r) .top (MXb m { r with fin:=4 }):=by
 obtain⟨h2,hf,hw,hl⟩:=ht
 have hT1:=zBt m r (k:=1) (by omega) hf hl
 have hT0:=zBt m r (k:=0) (by omega) hw hl
 have hN1:=zEL m r h1
 have hN0:=zFo m r h0
 refine zG6 func79 rfl ntmps79 results79 rfl ?_
 intro wb St0 X fx
 repeat' first|apply en_n|apply zAH|apply zAA|apply zAD|apply w0|(refine zAW ids9 [] rfl rfl zAr (hT1) rfl (SArgs_all rfl) rfl (by decide) rfl rfl rfl rfl)|(refine zAW ids9 [] rfl rfl zAr (hT0) rfl (SArgs_all rfl) rfl (by decide) rfl rfl rfl rfl)|(refine zAW ids9 [] rfl rfl zCN (hN1) rfl (SArgs_all rfl) rfl (by decide) rfl rfl rfl rfl)|(refine aVMc zCN hN0 (SArgs_all rfl) rfl rfl ?_)|apply ay (hd:=rfl)|exact zAF rfl|exact zAB rfl|exact zBX rfl|exact zAg rfl rfl|exact zAG rfl|refine zAJ rfl ?_|apply zAS
 all_goals exact zF4 rfl
theorem pAdd(m:Img)(r:Raw)(a b:Int)(hl:r.stk.length<=1048576)(h:2<=r.stk.length): zAU prog 80 [.d (i64 a),.d (i64 b),.ptr 9 0] (MXb m r) .top (MXb m { r with stk:=r.stk.take (r.stk.length-2)++[nW (W (a+b))] }):=by
 have hN:=zGW m r (n:=2) (W (a+b)) hl h
 refine zG6 func80 rfl ntmps80 results80 rfl ?_
 intro wb St0 X fx
 repeat' first|apply zAD|apply w0|(refine zAb zW6 (zVm _ _) (zAY rfl (zAY rfl zAM)))|(refine zBv (by kernel_rfl) ?_;refine aVMc zEX hN (SArgs_all rfl) rfl rfl ?_)|apply ay (hd:=rfl)|exact zAF rfl|exact zAE rfl zCh rfl rfl|refine zAj (by kernel_rfl) (by kernel_rfl) ?_
 all_goals exact zF4 rfl
theorem pSub(m:Img)(r:Raw)(a b:Int)(hl:r.stk.length<=1048576)(h:2<=r.stk.length): zAU prog 83 [.d (i64 a),.d (i64 b),.ptr 9 0] (MXb m r) .top (MXb m { r with stk:=r.stk.take (r.stk.length-2)++[nW (W (a-b))] }):=by
 have hN:=zGW m r (n:=2) (W (a-b)) hl h
 refine zG6 func83 rfl ntmps83 results83 rfl ?_
 intro wb St0 X fx
 repeat' first|apply zAD|apply w0|(refine zAb zW2 (zVi _ _) (zAY rfl (zAY rfl zAM)))|(refine zBv (by kernel_rfl) ?_;refine aVMc zEX hN (SArgs_all rfl) rfl rfl ?_)|apply ay (hd:=rfl)|exact zAF rfl|exact zAE rfl zCh rfl rfl|refine zAj (by kernel_rfl) (by kernel_rfl) ?_
 all_goals exact zF4 rfl
theorem pMul(m:Img)(r:Raw)(a b:Int)(hl:r.stk.length<=1048576)(h:2<=r.stk.length): zAU prog 85 [.d (i64 a),.d (i64 b),.ptr 9 0] (MXb m r) .top (MXb m { r with stk:=r.stk.take (r.stk.length-2)++[nW (W (a*b))] }):=by
 have hN:=zGW m r (n:=2) (W (a*b)) hl h
 refine zG6 func85 rfl ntmps85 results85 rfl ?_
 intro wb St0 X fx
 repeat' first|apply zAD|apply w0|(refine zAb zW3 (zVj _ _) (zAY rfl (zAY rfl zAM)))|(refine zBv (by kernel_rfl) ?_;refine aVMc zEX hN (SArgs_all rfl) rfl rfl ?_)|apply ay (hd:=rfl)|exact zAF rfl|exact zAE rfl zCh rfl rfl|refine zAj (by kernel_rfl) (by kernel_rfl) ?_
 all_goals exact zF4 rfl
theorem pDiv(m:Img)(r r':Raw)(a b:Int)(hW:zAU prog 88 [.ptr 0 0,.d (i64 (divV a b)),.d (i64 (zOv b))] (MX m r) .top (MX m r')): zAU prog 87 [.d (i64 a),.d (i64 b),.ptr 9 0] (MXb m r) .top (MXb m r'):=by
 refine zG6 func87 rfl ntmps87 results87 rfl ?_
 intro wb St0 X fx
 repeat' first|apply zAD|apply w0|(refine zAb zW5 (zVl _ _) (zAY rfl (zAY rfl zAM)))|(refine zBv (by kernel_rfl) ?_;refine aVMc zJS hW (SArgs_all rfl) rfl rfl ?_)|apply ay (hd:=rfl)|exact zAF rfl|exact zAg rfl rfl|exact zAE rfl zCh rfl rfl|refine zAj (by kernel_rfl) (by kernel_rfl) ?_
 all_goals exact zF4 rfl
theorem pMod(m:Img)(r r':Raw)(a b:Int)(hW:zAU prog 88 [.ptr 0 0,.d (i64 (modV a b)),.d (i64 (zOv b))] (MX m r) .top (MX m r')): zAU prog 90 [.d (i64 a),.d (i64 b),.ptr 9 0] (MXb m r) .top (MXb m r'):=by
 refine zG6 func90 rfl ntmps90 results90 rfl ?_
 intro wb St0 X fx
 repeat' first|apply zAD|apply w0|(refine zAb zW4 (zVk _ _) (zAY rfl (zAY rfl zAM)))|(refine zBv (by kernel_rfl) ?_;refine aVMc zJS hW (SArgs_all rfl) rfl rfl ?_)|apply ay (hd:=rfl)|exact zAF rfl|exact zAg rfl rfl|exact zAE rfl zCh rfl rfl|refine zAj (by kernel_rfl) (by kernel_rfl) ?_
 all_goals exact zF4 rfl
theorem pEq(m:Img)(r:Raw)(a b:Int)(hl:r.stk.length<=1048576)(h:2<=r.stk.length): zAU prog 92 [.d (i64 a),.d (i64 b),.ptr 9 0] (MXb m r) .top (MXb m { r with stk:=r.stk.take (r.stk.length-2)++[nW (if decide (a=b)then 1 else 0)] }):=by
 have hN:=zVH m r (decide (a=b)) hl h
 refine zG6 func92 rfl ntmps92 results92 rfl ?_
 intro wb St0 X fx
 repeat' first|apply zAA|apply zAD|apply w0|(refine aVMc zL0 hN (SArgs_all rfl) rfl rfl ?_)|apply ay (hd:=rfl)|exact zAF rfl|exact zFN rfl rfl|exact zAE rfl zCh rfl rfl
 all_goals exact zF4 rfl
theorem zZr(m:Img)(r:Raw)(a b:Int)(hl:r.stk.length<=1048576)(h:2<=r.stk.length): zAU prog 94 [.d (i64 a),.d (i64 b),.ptr 9 0] (MXb m r) .top (MXb m { r with stk:=r.stk.take (r.stk.length-2)++[nW (if decide (a<b)then 1 else 0)] }):=by
 have hN:=zVH m r (decide (a<b)) hl h
 refine zG6 func94 rfl ntmps94 results94 rfl ?_
 intro wb St0 X fx
 repeat' first|apply zAA|apply zAD|apply w0|(refine aVMc zL0 hN (SArgs_all rfl) rfl rfl ?_)|apply ay (hd:=rfl)|exact zAF rfl|exact zEw rfl rfl|exact zAE rfl zCh rfl rfl
 all_goals exact zF4 rfl
end Go.Proofs.YtcagoomibpcdlaaGreatDoor
