/- Parts of the proof. -/
import Derived.Test.YtcagoomibpcdlaaGreatDoorMAO
set_option maxHeartbeats 16000000
namespace Go.Proofs.YtcagoomibpcdlaaGreatDoor
open _root_.Go.Proofs.Tryz
open Go.Sx Go.Vm
def vD(s:CS)(b:Bool): D:=.agg [i64 s.of,i64 s.height,zCK s.tries,bl b]
def enCS: Option CS->D
 |none=>vD ⟨0,0,[]⟩ false
 |some s=>vD s true
def hasD(L:List (Int×Int)): List (Int×D):=L.map fun p=>(p.1,i64 p.2)
theorem zLq: ∀(L:List (Int×Int)) (k:Int),(zGY (hasD L) k).getD (i64 0)=i64 (getI L k)
 |[],_=>rfl
 |(a,b)::r,k=>by
  show (zGY ((a,i64 b)::hasD r) k).getD (i64 0)=_
  rw[zGY,getI]
  split
  ·rfl
  ·exact zLq r k
theorem zNv: ∀(L:List (Int×Int)) (k v:Int),putK (hasD L) k (i64 v)=hasD (putI L k v)
 |[],_,_=>rfl
 |(a,b)::r,k,v=>by
  show putK ((a,i64 b)::hasD r) k (i64 v)=_
  rw[putK,putI]
  split
  ·rfl
  ·rw[zNv r k v];rfl
abbrev cki(a:Int): Value:=.int .i64 a
abbrev CX(m:Img)(c:CK): List Ob :=
 [.box [.d (.slice (m.pool.map enCn)),.d (.slice (m.code.map enIn)),.buf 1 c.at_.length,.mp 2,.buf 3 c.work.length,.d (bl c.bad)],
  .buf true 151 4 (c.at_.map enCS),.map none (kvs cki (hasD c.has)),.buf true 3 1 (c.work.map ival)]
def CA(fx:Nat->Option Nat)(m:Img)(c:CK): List Ob :=
 [.bx (fx 0) none [.d (.slice (m.pool.map enCn)),.d (.slice (m.code.map enIn)),.buf 1 c.at_.length,.mp 2,.buf 3 c.work.length,.d (bl c.bad)],
  .buf true 151 4 (c.at_.map enCS),.map (fx 2) (kvs cki (hasD c.has)),.buf true 3 1 (c.work.map ival)]
abbrev ids4: List Nat:=[0,1,2,3]
theorem zWz: ids4.Nodup:=by decide
theorem zVa(fx:Nat->Option Nat)(m:Img)(c:CK): (CA fx m c).all (Ob.below (CA fx m c).length)=true:=rfl
theorem zVW{fx:Nat->Option Nat}{m:Img}{c:CK}{tl:List Ob}: Pre (CA fx m c) (CA fx m c++tl):=zAO rfl rfl (zAO rfl rfl (zAO rfl rfl (zAO rfl rfl zAt)))
theorem zDA{f:FuncId}{fn:Func}{c:Code}{avs:List SV}{m:Img}{r r':CK}{res:SV}{N:Nat}{rs:Array ResultVar}(hf:prog.funcs[f]?=some fn)(hb:fn.body=some c)(hN:fn.ntmps=N)(hrs:fn.results=rs)(hl:Nat.ble avs.length N=true)
  (h:∀(w0:World) (St0:Stab) (X:Nat->Prop) (fx:Nat->Option Nat),awp ⟨prog,N,w0,St0,X,0⟩ c (zBi rs res (CA fx m r')) (zGT avs 0) (CA fx m r)):zAU prog f avs (CX m r) res (CX m r') :=
 zFR hf hb hN hrs hl rfl rfl h
theorem zBL{fx:Nat->Option Nat}{m:Img}{r:CK}{σ:Sl}{η tl:List Ob}(he:η=CA fx m r++tl): zBi #[] .top (CA fx m r) .normal σ η:=by
 subst he
 exact zCj ⟨rfl,zAT Le_nil zVW rfl (zVa fx m r)⟩
theorem zWn{fx:Nat->Option Nat}{m:Img}{r:CK}{σ:Sl}{η tl:List Ob}(he:η=CA fx m r++tl): zBi #[] .top (CA fx m r) .ret σ η:=by
 subst he
 exact zDF ⟨rfl,zAT Le_nil zVW rfl (zVa fx m r)⟩
theorem CA_l{fx:Nat->Option Nat}{m:Img}{r:CK}{n1 n3:Nat}{b:Bool}{l1 l3:List D}{lh:List (Value×D)}(h1:r.at_.length=n1)(h3:r.work.length=n3)(hb:r.bad=b)(e1:r.at_.map enCS=l1)(eh:kvs cki (hasD r.has)=lh)(e3:r.work.map ival=l3):
  [.bx (fx 0) none [.d (.slice (m.pool.map enCn)),.d (.slice (m.code.map enIn)),.buf 1 n1,.mp 2,.buf 3 n3,.d (bl b)],.buf true 151 4 l1,.map (fx 2) lh,.buf true 3 1 l3]=CA fx m r:=by
 subst h1 h3 hb e1 eh e3;rfl
theorem zTy{fx:Nat->Option Nat}{m:Img}{r:CK}{σ:Sl}{η tl:List Ob}{n1 n3:Nat}{b:Bool}{l1 l3:List D}{lh:List (Value×D)}
  (he:η=[.bx (fx 0) none [.d (.slice (m.pool.map enCn)),.d (.slice (m.code.map enIn)),.buf 1 n1,.mp 2,.buf 3 n3,.d (bl b)],.buf true 151 4 l1,.map (fx 2) lh,.buf true 3 1 l3]++tl)
  (h1:r.at_.length=n1) (h3:r.work.length=n3) (hb:r.bad=b) (e1:r.at_.map enCS=l1) (eh:kvs cki (hasD r.has)=lh) (e3:r.work.map ival=l3):zBi #[] .top (CA fx m r) .normal σ η:=by
 rw[CA_l h1 h3 hb e1 eh e3]at he
 exact zBL he
attribute [local irreducible] zAN Program.underlying Ylds zA9 alex zB3 zBf awp zAi zCC zCB zAU zBl zAz zDt zBq zBj zBB zBr zB2 zB8 zD7 zBi zBd zBg
theorem aCK{N d:Nat}{w0:World}{St0:Stab}{X:Nat->Prop}{ops:Array Oper}{rest:List Oper}{K:Sl->List Ob->Prop}{σ:Sl}{ty:TypeId}{pos:String}{after:Array Edge}{gd:Option (Nat×Bool)}{f:FuncId}{args:List Operand}{ts:Array TypeId}{avs:List SV}{m:Img}{r r':CK}{res:SV}{fx:Nat->Option Nat}{η tl tl':List Ob}(hb:zAN prog f=true)(hc:zAU prog f avs (CX m r) res (CX m r'))(ha:SArgs σ ids4 args avs)(hd:Nat.blt d N=true)(hba:avs.all (SV.bel 4)=true)
  (he:η=CA fx m r++tl) (hw:zEU (zBa ids4 (CX m r)) ids4 tl=tl')
  (h:alex ⟨prog,N,w0,St0,X,0⟩ false ops rest K ((d,res.ren ids4)::zDx (zBa ids4 (CX m r)) ids4 σ) (CA fx m r'++tl')) :
  zA9 ⟨prog,N,w0,St0,X,0⟩ false ops ⟨some d,.call ⟨.value (.func f),args.toArray,ts⟩,ty,pos,after,gd⟩ rest K σ η:=by
 subst he
 have e:zDR (zEU (zBa ids4 (CX m r)) ids4 (CA fx m r++tl)) ids4 ((CX m r').map (Ob.ren ids4))=CA fx m r'++tl':=by rw[<-hw];rfl
 have hh:=(congrArg (alex ⟨prog,N,w0,St0,X,0⟩ false ops rest K ((d,res.ren ids4)::zDx (zBa ids4 (CX m r)) ids4 σ)) e).mpr h
 refine zGc (C:=⟨prog,N,w0,St0,X,0⟩) (η:=CA fx m r++tl) ids4 hb hc ha ?_ hd zWz ?_ ?_ ?_ hba ?_ ?_ hh
 ·rfl
 ·rfl
 ·rfl
 ·rfl
 ·rfl
 ·rfl
theorem zSU(A B:List Int)(hL:A.length<=2000000): zAi prog 151 [zCK A,zCK B] (bl (decide (A=B))):=by
 refine zAs func151 rfl ntmps151 results151 rfl ?_
 intro wb St0
 repeat' first|apply en_n|apply zAH|apply zAA|apply zAD|apply w0|apply ay (hd:=rfl)|exact zAF rfl|exact zAB rfl|exact zBI rfl zCc|exact zIG rfl rfl|(apply zBT;exact rfl;all_goals intro hb)|apply zAL|apply zAS|apply zAQ|apply en_r|apply zAR|refine res1 rfl ?_
 ·have:A≠B:=fun e=>by subst e;omega
  rw[decide_eq_false this]
 ·have hlen:A.length=B.length:=by omega
  refine zBW (α:=Nat) (fun i=>i<=A.length/\A.take i=B.take i) (fun i=>[(0,.d (zCK A)),(1,.d (zCK B)),(12,.d (i64 (A.length:Int))),(13,.d (i64 (i:Int)))]) (fun _=>[]) (fun i=>A.length-i) 0 ⟨qAX _,rfl⟩
   (zAT (Le_all rfl) zAt rfl rfl) ?_
  rintro i ⟨hi1,hi2⟩
  repeat' first|apply en_n|apply zAH|apply zAA|apply zAD|apply w0|(apply aI (hd:=rfl);(first|exact zCW rfl|exact zC3 rfl rfl rfl|exact Co_nn rfl);exact rfl;(with_reducible exact zBJ);exact fun _=>rfl;rotate_left;intro v hv;rotate_right)|apply ay (hd:=rfl)|exact zAF rfl|exact zAB rfl|exact zCb rfl zAP|exact zEw rfl rfl|exact zIG rfl rfl|refine zBE rfl rfl ?_|(apply zBT;exact rfl;all_goals intro hb)|apply zAL|apply zAS|apply zAQ|apply zBc|refine zAj (by kernel_rfl) (by kernel_rfl) ?_|apply en_r|apply en_e|apply eb_n|apply eb_r|apply eb_e|apply zAR|refine res1 rfl ?_
  ·omega
  ·omega
  ·rename_i b1 b2 u hu
   have:A≠B:=by rintro rfl;rw[hu]at hv;exact hb (qA8 hv)
   rw[decide_eq_false this]
  ·omega
  ·rename_i b1 b2 u hu
   obtain rfl:u=v:=Decidable.not_not.1 hb
   exact⟨i+1,⟨by omega,zGP (i:=i) hi2 hu hv⟩,by omega,zAT (Le_all rfl) zAt rfl rfl⟩
  ·have h1:=hi2
   rw[show i=A.length by omega,qA4,hlen,qA4]at h1
   rw[decide_eq_true h1]
theorem zSt(a b:CS)(x y:Bool)(hL:a.tries.length<=2000000): zAi prog 119 [vD a x,vD b y] (bl (decide (a=b))):=by
 have hE:=zSU a.tries b.tries hL
 obtain⟨o1,h1,t1⟩:=a
 obtain⟨o2,h2,t2⟩:=b
 refine zAs func119 rfl ntmps119 results119 rfl ?_
 intro wb St0
 unfold vD
 dsimp only at *
 repeat' first|apply en_n|apply zAH|apply zAA|apply zAD|apply w0|(apply k1u (hd:=rfl);exact rfl;exact rfl)|(refine zAb zIC hE (zAY rfl (zAY rfl zAM)))|(apply aBox (hd:=rfl) (hro:=rfl);exact rfl;exact rfl)|apply ay (hd:=rfl)|exact zAF rfl|exact zAB rfl|exact zFN rfl rfl|exact zAa rfl rfl|exact zAX rfl rfl|(apply zAC;exact rfl;(with_reducible first|exact zC5|exact zB0|exact zBm))|(apply zAE;exact rfl;(with_reducible first|exact zAP|exact zAw);exact rfl;exact rfl)|refine w1 rfl rfl ?_|(apply gD;exact rfl;exact rfl;all_goals intro hb)|apply zAQ|apply zAR|refine res1 rfl ?_
 ·rename_i e1
  exact congrArg bl (decide_eq_decide.2 ⟨fun e=>by rw[e1,hb,e],fun e=>(CS.mk.inj e).2.2⟩)
 ·exact congrArg bl (decide_eq_false fun e=>hb (CS.mk.inj e).2.1).symm
 ·exact congrArg bl (decide_eq_false fun e=>hb (CS.mk.inj e).1).symm
theorem zVr(s:List UInt8): zAi prog 152 [str s] (bl (conF s)):=by
 refine zAs func152 rfl ntmps152 results152 rfl ?_
 intro wb St0
 repeat' first|apply en_n|apply zAH|apply zAA|apply zAD|apply w0|exact zBY zWb zXw (PD_d rfl rfl (PD_d rfl rfl zCf)) rfl|(refine zAb zUD (zUp ⟨2,s,0,0⟩) (zAY rfl zAM))|apply ay (hd:=rfl)|exact zAF rfl|exact zAB rfl|apply zAQ|apply zAR|refine res1 rfl ?_
 rfl
end Go.Proofs.YtcagoomibpcdlaaGreatDoor
