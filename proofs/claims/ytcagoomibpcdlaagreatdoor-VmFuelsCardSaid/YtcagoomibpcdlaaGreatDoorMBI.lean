/- Texts of this claim, merged: VmDA. -/
import Derived.Test.YtcagoomibpcdlaaGreatDoorMAB
import Derived.Test.YtcagoomibpcdlaaGreatDoorMAD
import Derived.Test.YtcagoomibpcdlaaGreatDoorMAG
import Derived.Test.YtcagoomibpcdlaaGreatDoorMAN
namespace Go.Proofs.YtcagoomibpcdlaaGreatDoor
open Go.Sx Go.Vm
def vD(s:CS)(b:Bool): D:=.agg [i64 s.of,i64 s.height,zCL s.tries,bl b]
def enCS: Option CS→D
 |none=>vD ⟨0,0,[]⟩ false
 |some s=>vD s true
def hasD(L:List (Int×Int)): List (Int×D):=L.map fun p=>(p.1,i64 p.2)
theorem zLO: ∀(L:List (Int×Int)) (k:Int),(zGD (hasD L) k).getD (i64 0)=i64 (getI L k)
 |[],_=>rfl
 |(a,b)::r,k=>by
  show (zGD ((a,i64 b)::hasD r) k).getD (i64 0)=_
  rw[zGD,getI]
  split
  ·rfl
  ·exact zLO r k
theorem zNQ: ∀(L:List (Int×Int)) (k v:Int),putK (hasD L) k (i64 v)=hasD (putI L k v)
 |[],_,_=>rfl
 |(a,b)::r,k,v=>by
  show putK ((a,i64 b)::hasD r) k (i64 v)=_
  rw[putK,putI]
  split
  ·rfl
  ·rw[zNQ r k v];rfl
abbrev cki(a:Int): Value:=.int .i64 a
abbrev CX(m:Img)(c:CK): List Ob :=
 [.box [.d (.slice (m.pool.map enCn)),.d (.slice (m.code.map enIn)),.buf 1 c.at_.length,.mp 2,.buf 3 c.work.length,.d (bl c.bad)],
  .buf true 151 4 (c.at_.map enCS),.map none (kvs cki (hasD c.has)),.buf true 3 1 (c.work.map ival)]
def CA(fx:Nat→Option Nat)(m:Img)(c:CK): List Ob :=
 [.bx (fx 0) none [.d (.slice (m.pool.map enCn)),.d (.slice (m.code.map enIn)),.buf 1 c.at_.length,.mp 2,.buf 3 c.work.length,.d (bl c.bad)],
  .buf true 151 4 (c.at_.map enCS),.map (fx 2) (kvs cki (hasD c.has)),.buf true 3 1 (c.work.map ival)]
abbrev ids4: List Nat:=[0,1,2,3]
theorem zV7: ids4.Nodup:=by decide
theorem zUm(fx:Nat→Option Nat)(m:Img)(c:CK): (CA fx m c).all (Ob.below (CA fx m c).length)=true:=rfl
theorem zUi{fx:Nat→Option Nat}{m:Img}{c:CK}{tl:List Ob}: Pre (CA fx m c) (CA fx m c++tl):=zAP rfl rfl (zAP rfl rfl (zAP rfl rfl (zAP rfl rfl zA7)))
theorem zC4{f:FuncId}{fn:Func}{c:Code}{avs:List SV}{m:Img}{r r':CK}{res:SV}{N:Nat}{rs:Array ResultVar}(hf:Tryz.prog.funcs[f]?=some fn)(hb:fn.body=some c)(hN:fn.ntmps=N)(hrs:fn.results=rs)(hl:Nat.ble avs.length N=true)
  (h:∀(w0:World) (St0:Stab) (X:Nat→Prop) (fx:Nat→Option Nat),awp ⟨Tryz.prog,N,w0,St0,X,0⟩ c (zBn rs res (CA fx m r')) (zF8 avs 0) (CA fx m r)):zAW Tryz.prog f avs (CX m r) res (CX m r') :=
 zFB hf hb hN hrs hl rfl rfl h
theorem zBN{fx:Nat→Option Nat}{m:Img}{r:CK}{σ:Sl}{η tl:List Ob}(he:η=CA fx m r++tl): zBn #[] .top (CA fx m r) .normal σ η:=by
 subst he
 exact zCe ⟨rfl,zAV zAd zUi rfl (zUm fx m r)⟩
theorem zVv{fx:Nat→Option Nat}{m:Img}{r:CK}{σ:Sl}{η tl:List Ob}(he:η=CA fx m r++tl): zBn #[] .top (CA fx m r) .ret σ η:=by
 subst he
 exact zC8 ⟨rfl,zAV zAd zUi rfl (zUm fx m r)⟩
theorem CA_l{fx:Nat→Option Nat}{m:Img}{r:CK}{n1 n3:Nat}{b:Bool}{l1 l3:List D}{lh:List (Value×D)}(h1:r.at_.length=n1)(h3:r.work.length=n3)(hb:r.bad=b)(e1:r.at_.map enCS=l1)(eh:kvs cki (hasD r.has)=lh)(e3:r.work.map ival=l3):
  [.bx (fx 0) none [.d (.slice (m.pool.map enCn)),.d (.slice (m.code.map enIn)),.buf 1 n1,.mp 2,.buf 3 n3,.d (bl b)],.buf true 151 4 l1,.map (fx 2) lh,.buf true 3 1 l3]=CA fx m r:=by
 subst h1 h3 hb e1 eh e3;rfl
theorem zTI{fx:Nat→Option Nat}{m:Img}{r:CK}{σ:Sl}{η tl:List Ob}{n1 n3:Nat}{b:Bool}{l1 l3:List D}{lh:List (Value×D)}
  (he:η=[.bx (fx 0) none [.d (.slice (m.pool.map enCn)),.d (.slice (m.code.map enIn)),.buf 1 n1,.mp 2,.buf 3 n3,.d (bl b)],.buf true 151 4 l1,.map (fx 2) lh,.buf true 3 1 l3]++tl)
  (h1:r.at_.length=n1) (h3:r.work.length=n3) (hb:r.bad=b) (e1:r.at_.map enCS=l1) (eh:kvs cki (hasD r.has)=lh) (e3:r.work.map ival=l3):zBn #[] .top (CA fx m r) .normal σ η:=by
 rw[CA_l h1 h3 hb e1 eh e3]at he
 exact zBN he
attribute [local irreducible] zAQ Program.underlying Ylds zBD alex zCA zBi awp zAp zCI zCH zAW zBw zA5 zD4 zB0 zBp zBF zBv zB9 zCE zES zBn zBm zBs
theorem aCK{N d:Nat}{w0:World}{St0:Stab}{X:Nat→Prop}{ops:Array Oper}{rest:List Oper}{K:Sl→List Ob→Prop}{σ:Sl}{ty:TypeId}{pos:String}{after:Array Edge}{gd:Option (Nat×Bool)}{f:FuncId}{args:List Operand}{ts:Array TypeId}{avs:List SV}{m:Img}{r r':CK}{res:SV}{fx:Nat→Option Nat}{η tl tl':List Ob}(hb:zAQ Tryz.prog f=true)(hc:zAW Tryz.prog f avs (CX m r) res (CX m r'))(ha:SArgs σ ids4 args avs)(hd:Nat.blt d N=true)(hba:avs.all (SV.bel 4)=true)
  (he:η=CA fx m r++tl) (hw:zEL (zBa ids4 (CX m r)) ids4 tl=tl')
  (h:alex ⟨Tryz.prog,N,w0,St0,X,0⟩ false ops rest K ((d,res.ren ids4)::zDl (zBa ids4 (CX m r)) ids4 σ) (CA fx m r'++tl')) :
  zBD ⟨Tryz.prog,N,w0,St0,X,0⟩ false ops ⟨some d,.call ⟨.value (.func f),args.toArray,ts⟩,ty,pos,after,gd⟩ rest K σ η:=by
 subst he
 have e:zDH (zEL (zBa ids4 (CX m r)) ids4 (CA fx m r++tl)) ids4 ((CX m r').map (Ob.ren ids4))=CA fx m r'++tl':=by rw[←hw];rfl
 have hh:=(congrArg (alex ⟨Tryz.prog,N,w0,St0,X,0⟩ false ops rest K ((d,res.ren ids4)::zDl (zBa ids4 (CX m r)) ids4 σ)) e).mpr h
 refine zGI (C:=⟨Tryz.prog,N,w0,St0,X,0⟩) (η:=CA fx m r++tl) ids4 hb hc ha ?_ hd zV7 ?_ ?_ ?_ hba ?_ ?_ hh
 ·rfl
 ·rfl
 ·rfl
 ·rfl
 ·rfl
 ·rfl
theorem zRq(A B:List Int)(hL:A.length≤2000000): zAp Tryz.prog 151 [zCL A,zCL B] (bl (decide (A=B))):=by
 refine zA8 Tryz.func151 rfl Tryz.ntmps151 Tryz.results151 rfl ?_
 intro wb St0
 repeat' first|apply en_n|apply zAK|apply zAA|apply zAF|apply w0|apply ay (hd:=rfl)|exact zAJ rfl|exact zAD rfl|(apply zBZ;exact rfl;(with_reducible exact zCY))|exact zHz rfl rfl|(apply zCO;exact rfl;(intro hb);rotate_left;(intro hb);rotate_right)|apply zAO|apply zAU|apply zAT|apply en_r|apply zAY|(apply res1;exact rfl)
 ·have:A≠B:=fun e=>by subst e;omega
  rw[decide_eq_false this]
 ·have hlen:A.length=B.length:=by omega
  refine zBo (α:=Nat) (fun i=>i≤A.length∧A.take i=B.take i) (fun i=>[(0,.d (zCL A)),(1,.d (zCL B)),(12,.d (i64 (A.length:Int))),(13,.d (i64 (i:Int)))]) (fun _=>[]) (fun i=>A.length-i) 0 ⟨Nat.zero_le _,rfl⟩
   (zAV (zAI rfl (zAI rfl (zAI rfl (zAI rfl zAd)))) zA7 rfl rfl) ?_
  rintro i ⟨hi1,hi2⟩
  repeat' first|apply en_n|apply zAK|apply zAA|apply zAF|apply w0|(apply aI (hd:=rfl);(first|exact zCw rfl|exact zDn rfl rfl rfl|exact Co_nn rfl);exact rfl;(with_reducible exact zBK);exact fun _=>rfl;rotate_left;intro v hv;rotate_right)|apply ay (hd:=rfl)|exact zAJ rfl|exact zAD rfl|(apply zC3;exact rfl;(with_reducible exact zAS))|exact zGm rfl rfl|exact zHz rfl rfl|(apply zBL;exact rfl;exact rfl)|(apply zCO;exact rfl;(intro hb);rotate_left;(intro hb);rotate_right)|apply zAO|apply zAU|apply zAT|apply zBu|refine zAr (by kernel_rfl) (by kernel_rfl) ?_|apply en_r|apply en_e|apply eb_n|apply eb_r|apply eb_e|apply zAY|(apply res1;exact rfl)
  ·omega
  ·omega
  ·rename_i b1 b2 u hu
   have:A≠B:=by rintro rfl;rw[hu]at hv;exact hb (Option.some.inj hv)
   rw[decide_eq_false this]
  ·omega
  ·rename_i b1 b2 u hu
   obtain rfl:u=v:=Decidable.not_not.1 hb
   exact⟨i+1,⟨by omega,zF4 (i:=i) hi2 hu hv⟩,by omega,zAV (zAI rfl (zAI rfl (zAI rfl (zAI rfl zAd)))) zA7 rfl rfl⟩
  ·have h1:=hi2
   rw[show i=A.length by omega,List.take_length,hlen,List.take_length]at h1
   rw[decide_eq_true h1]
theorem zSG(a b:CS)(x y:Bool)(hL:a.tries.length≤2000000): zAp Tryz.prog 119 [vD a x,vD b y] (bl (decide (a=b))):=by
 have hE:=zRq a.tries b.tries hL
 obtain⟨o1,h1,t1⟩:=a
 obtain⟨o2,h2,t2⟩:=b
 refine zA8 Tryz.func119 rfl Tryz.ntmps119 Tryz.results119 rfl ?_
 intro wb St0
 unfold vD
 dsimp only at *
 repeat' first|apply en_n|apply zAK|apply zAA|apply zAF|apply w0|(apply k1u (hd:=rfl);exact rfl;exact rfl)|(refine zAh zHv hE (zAa rfl (zAa rfl zAR)))|(apply aBox (hd:=rfl) (hro:=rfl);exact rfl;exact rfl)|apply ay (hd:=rfl)|exact zAJ rfl|exact zAD rfl|exact zGM rfl rfl|exact zAj rfl rfl|exact zAc rfl rfl|(apply zAC;exact rfl;(with_reducible first|exact zCz|exact zBy|exact zBf))|(apply zAG;exact rfl;(with_reducible first|exact zAS|exact zAx);exact rfl;exact rfl)|(apply w1;exact rfl;exact rfl)|(apply gD;exact rfl;exact rfl;(intro hb);rotate_left;(intro hb);rotate_right)|apply zAT|apply zAY|(apply res1;exact rfl)
 ·rename_i e1
  exact congrArg bl (decide_eq_decide.2 ⟨fun e=>by rw[e1,hb,e],fun e=>(CS.mk.inj e).2.2⟩)
 ·exact congrArg bl (decide_eq_false fun e=>hb (CS.mk.inj e).2.1).symm
 ·exact congrArg bl (decide_eq_false fun e=>hb (CS.mk.inj e).1).symm
theorem zU5(s:List UInt8): zAp Tryz.prog 152 [str s] (bl (conF s)):=by
 refine zA8 Tryz.func152 rfl Tryz.ntmps152 Tryz.results152 rfl ?_
 intro wb St0
 repeat' first|apply en_n|apply zAK|apply zAA|apply zAF|apply w0|(apply zCX;exact zVk;exact zW5;exact PD_d rfl rfl (PD_d rfl rfl zDR);exact rfl)|(refine zAh zTV (zT7 ⟨2,s,0,0⟩) (zAa rfl zAR))|apply ay (hd:=rfl)|exact zAJ rfl|exact zAD rfl|apply zAT|apply zAY|(apply res1;exact rfl)
 rfl
end Go.Proofs.YtcagoomibpcdlaaGreatDoor
