/- Texts of this claim, merged: VmDC. -/
import Derived.Test.YtcagoomibpcdlaaGreatDoorMBJ
namespace Go.Proofs.YtcagoomibpcdlaaGreatDoor
open Go.Sx Go.Vm
theorem zUL: zMX Tryz.prog 146=some (3,3):=by kernel_rfl
theorem zW7: zOM Tryz.prog 3=some (i64 0):=by kernel_rfl
attribute [local irreducible] zAQ Program.underlying Ylds zBD alex zCA zBi awp zAp zCI zCH zAW zBw zA5 zD4 zB0 zBp zBF zBv zB9 zCE zES zBn zBm zBs
abbrev conQ(m:Img)(c:CK)(k:Int)(b:Bool): Prop:=zA5 Tryz.prog 121 [.ptr 0 0,.d (i64 k)] (CX m c) (bl b)
abbrev numQ(m:Img)(c:CK)(k:Int)(b:Bool): Prop:=zA5 Tryz.prog 125 [.ptr 0 0,.d (i64 k)] (CX m c) (bl b)
theorem zWP(m:Img)(c:CK)(k:Int)(h:¬k<(m.pool.length:Int)): conQ m c k false:=by
 refine zCW Tryz.func121 rfl Tryz.ntmps121 Tryz.results121 rfl ?_
 intro wb St0
 repeat' first|apply en_n|apply zAK|apply zAA|apply zAF|apply w0|exact zAN rfl|(apply zAG;exact rfl;(with_reducible exact zA0);exact rfl;exact rfl)|(apply k1u (hd:=rfl);exact rfl;exact rfl)|(apply zCk;exact rfl;exact rfl;first|assumption|omega)|apply ay (hd:=rfl)|exact zAJ rfl|exact zAD rfl|(apply zBZ;exact rfl;(with_reducible exact zF3))|exact zAc rfl rfl|exact zAH rfl|(apply zAC;exact rfl;(with_reducible first|exact zCi|exact zDA))|apply zAT|apply zAY|(apply res1;exact rfl)
 all_goals rfl
theorem zYC(m:Img)(c:CK)(k:Int){t:Bool}{x:Int}{s:List UInt8}(h0:0≤k)(hk:m.pool[k.toNat]?=some ⟨t,x,s⟩): conQ m c k (t&&conF s):=by
 have hlt:=(List.getElem?_eq_some_iff.1 hk).1
 have h:k<(m.pool.length:Int):=by omega
 have hat:(m.pool.map enCn)[k.toNat]?=some (enCn ⟨t,x,s⟩):=by rw[List.getElem?_map,hk];rfl
 have hC:=zU5 s
 refine zCW Tryz.func121 rfl Tryz.ntmps121 Tryz.results121 rfl ?_
 intro wb St0
 cases t
 all_goals
  repeat' first|apply en_n|apply zAK|apply zAA|apply zAF|apply w0|exact zAN rfl|(apply zAG;exact rfl;(with_reducible exact zA0);exact rfl;exact rfl)|(apply k1u (hd:=rfl);exact rfl;exact rfl)|(apply zC9;exact rfl;exact rfl;first|assumption|omega)|(refine zAh zWG hC (zAa rfl zAR))|(apply aJ (hd:=rfl);(first|exact zCw rfl|exact zDn rfl rfl rfl|exact Co_nn rfl);exact rfl;(with_reducible exact zD7);assumption;omega;exact fun _=>rfl)|apply ay (hd:=rfl)|exact zAJ rfl|exact zAD rfl|(apply zFd;exact rfl;(with_reducible first|exact zDa|exact zEM))|(apply zC3;exact rfl;(with_reducible first|exact zFg|exact zAg))|(apply zBZ;exact rfl;(with_reducible exact zF3))|exact zAj rfl rfl|exact zAc rfl rfl|exact zAH rfl|(apply zAC;exact rfl;(with_reducible first|exact zCi|exact zDA))|(apply w1;exact rfl;exact rfl)|apply zAT|apply zAY|(apply res1;exact rfl)
  all_goals rfl
theorem zVp(m:Img)(c:CK)(k:Int)(h:¬k<(m.pool.length:Int)): numQ m c k false:=by
 refine zCW Tryz.func125 rfl Tryz.ntmps125 Tryz.results125 rfl ?_
 intro wb St0
 repeat' first|apply en_n|apply zAK|apply zAA|apply zAF|apply w0|exact zAN rfl|(apply zAG;exact rfl;(with_reducible exact zA0);exact rfl;exact rfl)|(apply k1u (hd:=rfl);exact rfl;exact rfl)|(apply zCk;exact rfl;exact rfl;first|assumption|omega)|apply ay (hd:=rfl)|exact zAJ rfl|exact zAD rfl|(apply zBZ;exact rfl;(with_reducible exact zF3))|exact zAc rfl rfl|exact zAH rfl|(apply zAC;exact rfl;(with_reducible first|exact zCi|exact zDA))|apply zAT|apply zAY|(apply res1;exact rfl)
 all_goals rfl
theorem zXu(m:Img)(c:CK)(k:Int){t:Bool}{x:Int}{s:List UInt8}(h0:0≤k)(hk:m.pool[k.toNat]?=some ⟨t,x,s⟩): numQ m c k (!t):=by
 have hlt:=(List.getElem?_eq_some_iff.1 hk).1
 have h:k<(m.pool.length:Int):=by omega
 have hat:(m.pool.map enCn)[k.toNat]?=some (enCn ⟨t,x,s⟩):=by rw[List.getElem?_map,hk];rfl
 refine zCW Tryz.func125 rfl Tryz.ntmps125 Tryz.results125 rfl ?_
 intro wb St0
 cases t
 all_goals
  repeat' first|apply en_n|apply zAK|apply zAA|apply zAF|apply w0|exact zAN rfl|(apply zAG;exact rfl;(with_reducible exact zA0);exact rfl;exact rfl)|(apply zC9;exact rfl;exact rfl;first|assumption|omega)|(apply aJ (hd:=rfl);(first|exact zCw rfl|exact zDn rfl rfl rfl|exact Co_nn rfl);exact rfl;(with_reducible exact zD7);assumption;omega;exact fun _=>rfl)|apply ay (hd:=rfl)|exact zAJ rfl|exact zAD rfl|(apply zFd;exact rfl;(with_reducible exact zDa))|(apply zC3;exact rfl;(with_reducible exact zAg))|(apply zBZ;exact rfl;(with_reducible exact zF3))|exact zBd rfl|exact zAj rfl rfl|exact zAH rfl|(apply zAC;exact rfl;(with_reducible first|exact zCi|exact zDA))|(apply w1;exact rfl;exact rfl)|apply zAT|apply zAY|(apply res1;exact rfl)
  all_goals rfl
theorem zUU(m:Img)(c:CK)(k:Int)(h0:0≤k): conQ m c k (zIE conF m k):=by
 unfold zIE
 cases h:m.pool[k.toNat]? with
 |none=>exact zWP m c k (by have:=List.getElem?_eq_none_iff.1 h;omega)
 |some q=>obtain⟨t,x,s⟩:=q;exact zYC m c k h0 h
theorem zXt(m:Img)(c:CK)(k:Int)(h0:0≤k): numQ m c k (zKZ m k):=by
 unfold zKZ
 cases h:m.pool[k.toNat]? with
 |none=>exact zVp m c k (by have:=List.getElem?_eq_none_iff.1 h;omega)
 |some q=>obtain⟨t,x,s⟩:=q;exact zXu m c k h0 h
section
variable {η:List Ob}{σ:Sl}{dst:Option Nat}{ty:TypeId}{pos:String}{after:Array Edge}{gd:Option (Nat×Bool)}{x y z:Operand}
theorem zHB{id:Nat}{kb:Option Nat}{L:List (Int×Int)}{a:Int}(hx:oval σ x=.mp id)(ho:η[id]?=some (.map kb (kvs cki (hasD L))))(hy:oval σ y=.d (i64 a)): Ylds Tryz.prog η σ ⟨dst,.lookup 146 x y false,ty,pos,after,gd⟩ (.d (i64 (getI L a))):=by
 rw[←zLO]
 exact zWk hx ho hy zUL uint zW7
theorem zYP{C:Ctx}{ops:Array Oper}{rest:List Oper}{K:Sl→List Ob→Prop}{id:Nat}{kb:Option Nat}{L:List (Int×Int)}{a v:Int}(hP:C.P=Tryz.prog)(hx:oval σ x=.mp id)(ho:η[id]?=some (.map kb (kvs cki (hasD L))))(hy:oval σ y=.d (i64 a))(hz:oval σ z=.d (i64 v))(hro:Nat.ble C.ro id=true)
  (h:alex C false ops rest K σ (η.set id (.map kb (kvs cki (hasD (putI L a v)))))):zBD C false ops ⟨none,.mapUpdate 146 x y z,ty,pos,after,gd⟩ rest K σ η:=by
 obtain⟨P,N,w0,St0,X,ro⟩:=C
 dsimp only at hP
 subst hP
 rw[←zNQ]at h
 exact zWf (k:=3) (e:=3) (enc:=cki) (dv:=i64 v) hx ho hy (by rw[hz];rfl) zUL (zUP uint) hro h
end
abbrev zM1(m:Img)(c c':CK)(k n:Int): Prop:=zAW Tryz.prog 124 [.ptr 0 0,.d (i64 k),.d (i64 n)] (CX m c) .top (CX m c')
theorem zTj(m:Img)(c:CK)(k n:Int)(hn:0≤n∧n≤1048576)(hC:zHj m { c with has:=putI c.has k (n+1) } (({ c with has:=putI c.has k (n+1) }:CK).come k ⟨k,1,[]⟩) k ⟨k,1,[]⟩): zM1 m c (c.begin k n) k n:=by
 refine zC4 Tryz.func124 rfl Tryz.ntmps124 Tryz.results124 rfl ?_
 intro wb St0 X fx
 unfold CK.begin
 by_cases h1:getI c.has k>0
 ·by_cases h2:getI c.has k=n+1
  ·have h3:¬getI c.has k≠n+1:=fun e=>e h2
   rw[if_neg (fun e=>h3 e.2)]
   repeat' first|apply en_n|apply zAK|apply zAA|apply zAF|apply w0|(refine zHB rfl rfl rfl)|exact zAN rfl|(refine zYP rfl rfl rfl rfl rfl rfl ?_)|(refine zCX (cs:=[i64 k,i64 1,zCL [],bl false]) zGR zEd (PD_d rfl rfl (PD_d rfl rfl zDR)) rfl)|(refine aCK (r:={ c with has:=putI c.has k (n+1) }) (tl:=[]) (tl':=[]) zFY hC ?_ rfl rfl rfl rfl ?_;(repeat (refine zAB rfl ?_));exact zAE)|(apply zE2;exact rfl;exact rfl;first|assumption|omega)|(apply zGJ;exact rfl;exact rfl;first|assumption|omega)|apply ay (hd:=rfl)|exact zAJ rfl|(apply zBL;exact rfl;exact rfl)|exact zAj rfl rfl|exact zAH rfl|(apply zAC;exact rfl;(with_reducible exact zD6))|(apply zAG;exact rfl;(with_reducible exact zA1);exact rfl;exact rfl)|(apply w1;exact rfl;exact rfl)|(refine w0' ?_)|(apply zAM;exact rfl)|apply zAU
   all_goals first|omega|skip
   all_goals exact zBN rfl
  ·rw[if_pos ⟨h1,h2⟩]
   repeat' first|apply en_n|apply zAK|apply zAA|apply zAF|apply w0|(refine zHB rfl rfl rfl)|exact zAN rfl|(apply zE2;exact rfl;exact rfl;first|assumption|omega)|(apply zGs;exact rfl;exact rfl;first|assumption|omega)|apply ay (hd:=rfl)|exact zAJ rfl|(apply zBL;exact rfl;exact rfl)|exact zAj rfl rfl|exact zAH rfl|(apply zAC;exact rfl;(with_reducible first|exact zD6|exact zCy))|(apply zAG;exact rfl;(with_reducible exact zA1);exact rfl;exact rfl)|(apply w1;exact rfl;exact rfl)|(refine w0' ?_)|(apply zAl;exact rfl;exact rfl;exact rfl;(with_reducible exact zAg);exact rfl;exact rfl;exact rfl;exact rfl)|(apply zAL;exact rfl)|apply zAT|apply en_r
   all_goals first|omega|skip
   all_goals exact zVv rfl
 ·rw[if_neg (fun e=>h1 e.1)]
  repeat' first|apply en_n|apply zAK|apply zAA|apply zAF|apply w0|(refine zHB rfl rfl rfl)|exact zAN rfl|(refine zYP rfl rfl rfl rfl rfl rfl ?_)|(refine zCX (cs:=[i64 k,i64 1,zCL [],bl false]) zGR zEd (PD_d rfl rfl (PD_d rfl rfl zDR)) rfl)|(refine aCK (r:={ c with has:=putI c.has k (n+1) }) (tl:=[]) (tl':=[]) zFY hC ?_ rfl rfl rfl rfl ?_;(repeat (refine zAB rfl ?_));exact zAE)|(apply k1u (hd:=rfl);exact rfl;exact rfl)|(apply zDt;exact rfl;exact rfl;first|assumption|omega)|apply ay (hd:=rfl)|exact zAJ rfl|(apply zBL;exact rfl;exact rfl)|exact zAc rfl rfl|exact zAH rfl|(apply zAC;exact rfl;(with_reducible exact zD6))|(apply zAG;exact rfl;(with_reducible exact zA1);exact rfl;exact rfl)|(refine w0' ?_)|(apply zAM;exact rfl)|apply zAU
  all_goals first|omega|skip
  all_goals exact zBN rfl
end Go.Proofs.YtcagoomibpcdlaaGreatDoor
