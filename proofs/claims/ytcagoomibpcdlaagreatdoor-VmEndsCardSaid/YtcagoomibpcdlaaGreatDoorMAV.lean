/- Parts of the proof. -/
import Derived.Test.YtcagoomibpcdlaaGreatDoorMAU
set_option maxHeartbeats 16000000
namespace Go.Proofs.YtcagoomibpcdlaaGreatDoor
open _root_.Go.Proofs.Tryz
open Go.Sx Go.Vm
abbrev MXb(m:Img)(r:Raw): List Ob:=MX m r++[.box [.ptr 0 0]]
def MAc(fx:Nat->Option Nat)(k:Option Nat)(m:Img)(r:Raw): List Ob:=MA fx m r++[.bx k none [.ptr 0 0]]
abbrev ids10: List Nat:=[0,1,2,3,4,5,6,7,8,9]
theorem zYZ(fx:Nat->Option Nat)(k:Option Nat)(m:Img)(r r':Raw): zDT (zEc (zBo ids9 (MX m r)) ids9 (MAc fx k m r)) ids9 ((MX m r').map (Ob.ren ids9))=MAc fx k m r':=rfl
theorem zTB(fx:Nat->Option Nat)(k:Option Nat)(m:Img)(r:Raw): Picks (MAc fx k m r) ids9 (MX m r):=rfl
theorem zPP(fx:Nat->Option Nat)(k:Option Nat)(m:Img)(r r':Raw): zDT (zEc (zBo ids10 (MXb m r)) ids10 (MAc fx k m r)) ids10 ((MXb m r').map (Ob.ren ids10))=MAc fx k m r':=rfl
theorem zKu(fx:Nat->Option Nat)(k:Option Nat)(m:Img)(r:Raw): Picks (MAc fx k m r) ids10 (MXb m r):=rfl
theorem zLU: ids10.Nodup:=by decide
theorem zTC(fx:Nat->Option Nat)(k:Option Nat)(m:Img)(r:Raw): (MAc fx k m r).all (Ob.below (MAc fx k m r).length)=true:=rfl
theorem zBO{fx:Nat->Option Nat}{m:Img}{r r':Raw}{σ:Sl}{η tl:List Ob}(he:η=MA fx m r'++tl)(e:r=r'): zBm #[] .top (MA fx m r) .normal σ η:=by
 subst he e
 exact zCl ⟨rfl,zAS Le_nil (zID (q:=tl) rfl rfl rfl rfl rfl rfl (zBf rfl) (zBf rfl) (zBf rfl) rfl) rfl (zM8 fx m r)⟩
theorem zHG{f:FuncId}{fn:Func}{c:Code}{avs:List SV}{m:Img}{r r':Raw}{res:SV}{N:Nat}{rs:Array ResultVar}(hf:prog.funcs[f]?=some fn)(hb:fn.body=some c)(hN:fn.ntmps=N)(hrs:fn.results=rs)(hl:Nat.ble avs.length N=true)
  (h:∀(w0:World) (St0:Stab) (X:Nat->Prop) (fx:Nat->Option Nat),awp ⟨prog,N,w0,St0,X,0⟩ c (zBm rs res (MAc fx (fx 9) m r')) (zGU avs 0) (MAc fx (fx 9) m r)):zAU prog f avs (MXb m r) res (MXb m r') :=
 zFV hf hb hN hrs hl rfl rfl h
theorem zF8{fx:Nat->Option Nat}{k:Option Nat}{m:Img}{r r':Raw}{σ:Sl}(e:r=r'): zBm #[] .top (MAc fx k m r) .normal σ (MAc fx k m r'):=by
 subst e;exact zCl ⟨rfl,zAS Le_nil (zBF _) rfl (zTC fx k m r)⟩
theorem zXS{fx:Nat->Option Nat}{k:Option Nat}{m:Img}{r r':Raw}{σ:Sl}(e:r=r'): zBm #[] .top (MAc fx k m r) .ret σ (MAc fx k m r'):=by
 subst e;exact zDI ⟨rfl,zAS Le_nil (zBF _) rfl (zTC fx k m r)⟩
attribute [local irreducible] zAO Program.underlying Ylds zBE alex zB0 zBk awp zAg zB9 zB8 zAU zBj zA6 zBl zBn zBC zBq zBz zB7 zBm zBc zBe
section
variable {N d:Nat}{w0:World}{St0:Stab}{X:Nat->Prop}{ops:Array Oper}{rest:List Oper}{K:Sl->List Ob->Prop}{σ:Sl}{ty:TypeId}{pos:String}{after:Array Edge}{gd:Option (Nat×Bool)}{f:FuncId}{args:List Operand}{ts:Array TypeId}{avs:List SV}{m:Img}{r r':Raw}{res:SV}{fx:Nat->Option Nat}{k:Option Nat}
theorem aVMc(hb:zAO prog f=true)(hc:zAU prog f avs (MX m r) res (MX m r'))(ha:SArgs σ ids9 args avs)(hd:Nat.blt d N=true)(hba:avs.all (SV.bel 9)=true)
  (h:alex ⟨prog,N,w0,St0,X,0⟩ false ops rest K ((d,res.ren ids9)::zD2 (zBo ids9 (MX m r)) ids9 σ) (MAc fx k m r')) :
  zBE ⟨prog,N,w0,St0,X,0⟩ false ops ⟨some d,.call ⟨.value (.func f),args.toArray,ts⟩,ty,pos,after,gd⟩ rest K σ (MAc fx k m r):=by
 have hh:=(congrArg (alex ⟨prog,N,w0,St0,X,0⟩ false ops rest K ((d,res.ren ids9)::zD2 (zBo ids9 (MX m r)) ids9 σ)) (zYZ fx k m r r')).mpr h
 refine zGg (C:=⟨prog,N,w0,St0,X,0⟩) (η:=MAc fx k m r) ids9 hb hc ha (zTB fx k m r) hd zNh ?_ ?_ ?_ hba ?_ ?_ hh
 ·rfl
 ·rfl
 ·rfl
 ·rfl
 ·rfl
theorem aVMt{η tl tl':List Ob}(hb:zAO prog f=true)(hc:zAU prog f avs (MX m r) res (MX m r'))(ha:SArgs σ ids9 args avs)(hd:Nat.blt d N=true)(hba:avs.all (SV.bel 9)=true)
  (he:η=MA fx m r++tl) (hw:zEc (zBo ids9 (MX m r)) ids9 tl=tl')
  (h:alex ⟨prog,N,w0,St0,X,0⟩ false ops rest K ((d,res.ren ids9)::zD2 (zBo ids9 (MX m r)) ids9 σ) (MA fx m r'++tl')) :
  zBE ⟨prog,N,w0,St0,X,0⟩ false ops ⟨some d,.call ⟨.value (.func f),args.toArray,ts⟩,ty,pos,after,gd⟩ rest K σ η:=by
 subst he
 have e:zDT (zEc (zBo ids9 (MX m r)) ids9 (MA fx m r++tl)) ids9 ((MX m r').map (Ob.ren ids9))=MA fx m r'++tl':=by rw[<-hw];rfl
 have hh:=(congrArg (alex ⟨prog,N,w0,St0,X,0⟩ false ops rest K ((d,res.ren ids9)::zD2 (zBo ids9 (MX m r)) ids9 σ)) e).mpr h
 refine zGg (C:=⟨prog,N,w0,St0,X,0⟩) (η:=MA fx m r++tl) ids9 hb hc ha ?_ hd zNh ?_ ?_ ?_ hba ?_ ?_ hh
 ·rfl
 ·rfl
 ·rfl
 ·rfl
 ·rfl
 ·rfl
theorem aVMi(hb:zAO prog f=true)(hc:zAU prog f avs (MXb m r) res (MXb m r'))(ha:SArgs σ ids10 args avs)(hd:Nat.blt d N=true)(hba:avs.all (SV.bel 10)=true)
  (h:alex ⟨prog,N,w0,St0,X,0⟩ false ops rest K ((d,res.ren ids10)::zD2 (zBo ids10 (MXb m r)) ids10 σ) (MAc fx k m r')) :
  zBE ⟨prog,N,w0,St0,X,0⟩ false ops ⟨some d,.call ⟨.value (.func f),args.toArray,ts⟩,ty,pos,after,gd⟩ rest K σ (MAc fx k m r):=by
 have hh:=(congrArg (alex ⟨prog,N,w0,St0,X,0⟩ false ops rest K ((d,res.ren ids10)::zD2 (zBo ids10 (MXb m r)) ids10 σ)) (zPP fx k m r r')).mpr h
 refine zGg (C:=⟨prog,N,w0,St0,X,0⟩) (η:=MAc fx k m r) ids10 hb hc ha (zKu fx k m r) hd zLU ?_ ?_ ?_ hba ?_ ?_ hh
 ·rfl
 ·rfl
 ·rfl
 ·rfl
 ·rfl
theorem aVMf{x:Operand}(hx:oval σ x=.clo f [9])(hb:zAO prog f=true)(hc:zAU prog f (avs++[.ptr 9 0]) (MXb m r) res (MXb m r'))(ha:SArgs σ ids10 args avs)(hd:Nat.blt d N=true)(hba:(avs++[SV.ptr 9 0]).all (SV.bel 10)=true)
  (h:alex ⟨prog,N,w0,St0,X,0⟩ false ops rest K ((d,res.ren ids10)::zD2 (zBo ids10 (MXb m r)) ids10 σ) (MAc fx k m r')) :
  zBE ⟨prog,N,w0,St0,X,0⟩ false ops ⟨some d,.call ⟨.value x,args.toArray,ts⟩,ty,pos,after,gd⟩ rest K σ (MAc fx k m r):=by
 have hh:=(congrArg (alex ⟨prog,N,w0,St0,X,0⟩ false ops rest K ((d,res.ren ids10)::zD2 (zBo ids10 (MXb m r)) ids10 σ)) (zPP fx k m r r')).mpr h
 refine zV2 (C:=⟨prog,N,w0,St0,X,0⟩) (η:=MAc fx k m r) ids10 [9] hx rfl hb hc ha (zKu fx k m r) hd zLU ?_ ?_ ?_ hba ?_ ?_ hh
 ·rfl
 ·rfl
 ·rfl
 ·rfl
 ·rfl
end
structure Tops(r:Raw)(u1 u0:Nat): Prop where
 len:2<=r.stk.length
 top1:r.stk[r.stk.length-1-1]?=some u1
 top0:r.stk[r.stk.length-1-0]?=some u0
 big:r.stk.length<=1048576
theorem ints_ok(m:Img)(r r':Raw){f:FuncId}{u1 u0:Nat}{a b:Int}(hb:zAO prog f=true)(ht:Tops r u1 u0)(h1:zAg prog 54 [w64 u1] (.tup [i64 a,bl true]))(h0:zAg prog 54 [w64 u0] (.tup [i64 b,bl true]))
  (hF:zAU prog f [.d (i64 a),.d (i64 b),.ptr 9 0] (MXb m r) .top (MXb m r')):zAU prog 79 [.ptr 0 0,.clo f [9]] (MXb m r) .top (MXb m r'):=by
 obtain⟨h2,hf,hw,hl⟩:=ht
 have hT1:=zB4 m r (k:=1) (by omega) hf hl
 have hT0:=zB4 m r (k:=0) (by omega) hw hl
 have hN1:=zES m r h1
 have hN0:=zES m r h0
 refine zHG func79 rfl ntmps79 results79 rfl ?_
 intro wb St0 X fx
 repeat' first|apply en_n|apply zAG|apply zAA|apply zAD|apply w0|(refine zAX ids9 [] rfl rfl zAw (hT1) rfl (SArgs_all rfl) rfl (by decide) rfl rfl rfl rfl)|(refine zAX ids9 [] rfl rfl zAw (hT0) rfl (SArgs_all rfl) rfl (by decide) rfl rfl rfl rfl)|(refine zAX ids9 [] rfl rfl zCS (hN1) rfl (SArgs_all rfl) rfl (by decide) rfl rfl rfl rfl)|(refine zAX ids9 [] rfl rfl zCS (hN0) rfl (SArgs_all rfl) rfl (by decide) rfl rfl rfl rfl)|(refine aVMf (avs:=[.d (i64 a),.d (i64 b)]) rfl hb hF (SArgs_all rfl) rfl rfl ?_)|apply ay (hd:=rfl)|exact zAF rfl|exact zAB rfl|exact zBS rfl|exact zAk rfl rfl|exact zAH rfl|exact zAh rfl|refine zAI rfl ?_|refine zAJ rfl ?_|apply zAR
 all_goals exact zF8 rfl
theorem zUm(m:Img)(r:Raw){f:FuncId}{u1 u0:Nat}(ht:Tops r u1 u0)(h1:zAg prog 54 [w64 u1] (.tup [i64 0,bl false])):
  zAU prog 79 [.ptr 0 0,.clo f [9]] (MXb m r) .top (MXb m { r with fin:=4 }):=by
 obtain⟨h2,hf,hw,hl⟩:=ht
 have hT1:=zB4 m r (k:=1) (by omega) hf hl
 have hN1:=zFu m r h1
 refine zHG func79 rfl ntmps79 results79 rfl ?_
 intro wb St0 X fx
 repeat' first|apply en_n|apply zAG|apply zAA|apply zAD|apply w0|(refine zAX ids9 [] rfl rfl zAw (hT1) rfl (SArgs_all rfl) rfl (by decide) rfl rfl rfl rfl)|(refine aVMc zCS hN1 (SArgs_all rfl) rfl rfl ?_)|apply ay (hd:=rfl)|exact zAF rfl|exact zAB rfl|exact zBS rfl|exact zAk rfl rfl|exact zAH rfl|refine zAI rfl ?_|apply zAQ|apply en_r
 all_goals exact zXS rfl
theorem zUn(m:Img)(r:Raw){f:FuncId}{u1 u0:Nat}{a:Int}(ht:Tops r u1 u0)(h1:zAg prog 54 [w64 u1] (.tup [i64 a,bl true]))(h0:zAg prog 54 [w64 u0] (.tup [i64 0,bl false])):
  zAU prog 79 [.ptr 0 0,.clo f [9]] (MXb m r) .top (MXb m { r with fin:=4 }):=by
 obtain⟨h2,hf,hw,hl⟩:=ht
 have hT1:=zB4 m r (k:=1) (by omega) hf hl
 have hT0:=zB4 m r (k:=0) (by omega) hw hl
 have hN1:=zES m r h1
 have hN0:=zFu m r h0
 refine zHG func79 rfl ntmps79 results79 rfl ?_
 intro wb St0 X fx
 repeat' first|apply en_n|apply zAG|apply zAA|apply zAD|apply w0|(refine zAX ids9 [] rfl rfl zAw (hT1) rfl (SArgs_all rfl) rfl (by decide) rfl rfl rfl rfl)|(refine zAX ids9 [] rfl rfl zAw (hT0) rfl (SArgs_all rfl) rfl (by decide) rfl rfl rfl rfl)|(refine zAX ids9 [] rfl rfl zCS (hN1) rfl (SArgs_all rfl) rfl (by decide) rfl rfl rfl rfl)|(refine aVMc zCS hN0 (SArgs_all rfl) rfl rfl ?_)|apply ay (hd:=rfl)|exact zAF rfl|exact zAB rfl|exact zBS rfl|exact zAk rfl rfl|exact zAH rfl|refine zAJ rfl ?_|apply zAR
 all_goals exact zF8 rfl
theorem pAdd(m:Img)(r:Raw)(a b:Int)(hl:r.stk.length<=1048576)(h:2<=r.stk.length): zAU prog 80 [.d (i64 a),.d (i64 b),.ptr 9 0] (MXb m r) .top (MXb m { r with stk:=r.stk.take (r.stk.length-2)++[nW (W (a+b))] }):=by
 have hN:=zGX m r (n:=2) (W (a+b)) hl h
 refine zHG func80 rfl ntmps80 results80 rfl ?_
 intro wb St0 X fx
 repeat' first|apply zAD|apply w0|(refine zAd zXp (zWT _ _) (CoLA rfl))|(refine zBs (by kernel_rfl) ?_;refine aVMc zEg hN (SArgs_all rfl) rfl rfl ?_)|apply ay (hd:=rfl)|exact zAF rfl|exact zAE rfl zCj rfl rfl|refine zAf (by kernel_rfl) (by kernel_rfl) ?_
 all_goals exact zF8 rfl
theorem pSub(m:Img)(r:Raw)(a b:Int)(hl:r.stk.length<=1048576)(h:2<=r.stk.length): zAU prog 83 [.d (i64 a),.d (i64 b),.ptr 9 0] (MXb m r) .top (MXb m { r with stk:=r.stk.take (r.stk.length-2)++[nW (W (a-b))] }):=by
 have hN:=zGX m r (n:=2) (W (a-b)) hl h
 refine zHG func83 rfl ntmps83 results83 rfl ?_
 intro wb St0 X fx
 repeat' first|apply zAD|apply w0|(refine zAd zXl (zWP _ _) (CoLA rfl))|(refine zBs (by kernel_rfl) ?_;refine aVMc zEg hN (SArgs_all rfl) rfl rfl ?_)|apply ay (hd:=rfl)|exact zAF rfl|exact zAE rfl zCj rfl rfl|refine zAf (by kernel_rfl) (by kernel_rfl) ?_
 all_goals exact zF8 rfl
theorem pMul(m:Img)(r:Raw)(a b:Int)(hl:r.stk.length<=1048576)(h:2<=r.stk.length): zAU prog 85 [.d (i64 a),.d (i64 b),.ptr 9 0] (MXb m r) .top (MXb m { r with stk:=r.stk.take (r.stk.length-2)++[nW (W (a*b))] }):=by
 have hN:=zGX m r (n:=2) (W (a*b)) hl h
 refine zHG func85 rfl ntmps85 results85 rfl ?_
 intro wb St0 X fx
 repeat' first|apply zAD|apply w0|(refine zAd zXm (zWQ _ _) (CoLA rfl))|(refine zBs (by kernel_rfl) ?_;refine aVMc zEg hN (SArgs_all rfl) rfl rfl ?_)|apply ay (hd:=rfl)|exact zAF rfl|exact zAE rfl zCj rfl rfl|refine zAf (by kernel_rfl) (by kernel_rfl) ?_
 all_goals exact zF8 rfl
theorem pDiv(m:Img)(r r':Raw)(a b:Int)(hW:zAU prog 88 [.ptr 0 0,.d (i64 (divV a b)),.d (i64 (zPU b))] (MX m r) .top (MX m r')): zAU prog 87 [.d (i64 a),.d (i64 b),.ptr 9 0] (MXb m r) .top (MXb m r'):=by
 refine zHG func87 rfl ntmps87 results87 rfl ?_
 intro wb St0 X fx
 repeat' first|apply zAD|apply w0|(refine zAd zXo (zWS _ _) (CoLA rfl))|(refine zBs (by kernel_rfl) ?_;refine aVMc zJs hW (SArgs_all rfl) rfl rfl ?_)|apply ay (hd:=rfl)|exact zAF rfl|exact zAk rfl rfl|exact zAE rfl zCj rfl rfl|refine zAf (by kernel_rfl) (by kernel_rfl) ?_
 all_goals exact zF8 rfl
theorem pMod(m:Img)(r r':Raw)(a b:Int)(hW:zAU prog 88 [.ptr 0 0,.d (i64 (modV a b)),.d (i64 (zPU b))] (MX m r) .top (MX m r')): zAU prog 90 [.d (i64 a),.d (i64 b),.ptr 9 0] (MXb m r) .top (MXb m r'):=by
 refine zHG func90 rfl ntmps90 results90 rfl ?_
 intro wb St0 X fx
 repeat' first|apply zAD|apply w0|(refine zAd zXn (zWR _ _) (CoLA rfl))|(refine zBs (by kernel_rfl) ?_;refine aVMc zJs hW (SArgs_all rfl) rfl rfl ?_)|apply ay (hd:=rfl)|exact zAF rfl|exact zAk rfl rfl|exact zAE rfl zCj rfl rfl|refine zAf (by kernel_rfl) (by kernel_rfl) ?_
 all_goals exact zF8 rfl
theorem pEq(m:Img)(r:Raw)(a b:Int)(hl:r.stk.length<=1048576)(h:2<=r.stk.length): zAU prog 92 [.d (i64 a),.d (i64 b),.ptr 9 0] (MXb m r) .top (MXb m { r with stk:=r.stk.take (r.stk.length-2)++[nW (if decide (a=b)then 1 else 0)] }):=by
 have hN:=zVy m r (decide (a=b)) hl h
 refine zHG func92 rfl ntmps92 results92 rfl ?_
 intro wb St0 X fx
 repeat' first|apply zAA|apply zAD|apply w0|(refine aVMc zMa hN (SArgs_all rfl) rfl rfl ?_)|apply ay (hd:=rfl)|exact zAF rfl|exact zE6 rfl rfl|exact zAE rfl zCj rfl rfl
 all_goals exact zF8 rfl
theorem zai(m:Img)(r:Raw)(a b:Int)(hl:r.stk.length<=1048576)(h:2<=r.stk.length): zAU prog 94 [.d (i64 a),.d (i64 b),.ptr 9 0] (MXb m r) .top (MXb m { r with stk:=r.stk.take (r.stk.length-2)++[nW (if decide (a<b)then 1 else 0)] }):=by
 have hN:=zVy m r (decide (a<b)) hl h
 refine zHG func94 rfl ntmps94 results94 rfl ?_
 intro wb St0 X fx
 repeat' first|apply zAA|apply zAD|apply w0|(refine aVMc zMa hN (SArgs_all rfl) rfl rfl ?_)|apply ay (hd:=rfl)|exact zAF rfl|exact zEM rfl rfl|exact zAE rfl zCj rfl rfl
 all_goals exact zF8 rfl
end Go.Proofs.YtcagoomibpcdlaaGreatDoor
