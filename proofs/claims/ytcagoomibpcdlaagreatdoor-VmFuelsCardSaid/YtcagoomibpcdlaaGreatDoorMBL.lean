/- Texts of this claim, merged: VmDD. -/
import Derived.Test.YtcagoomibpcdlaaGreatDoorMBK
namespace Go.Proofs.YtcagoomibpcdlaaGreatDoor
open Go.Sx Go.Vm
abbrev CXs(m:Img)(c:CK)(s:CS)(b:Bool)(fl:Int): List Ob:=CX m c++[.box [.d (i64 s.of),.d (i64 s.height),.d (zCL s.tries),.d (bl b)],.box [.d (i64 fl)],.box [.ptr 0 0]]
def CAs(fx:Nat→Option Nat)(m:Img)(c:CK)(s:CS)(b:Bool)(fl:Int): List Ob:=CA fx m c++[.bx (fx 4) none [.d (i64 s.of),.d (i64 s.height),.d (zCL s.tries),.d (bl b)],.bx (fx 5) none [.d (i64 fl)],.bx (fx 6) none [.ptr 0 0]]
theorem zRs(fx:Nat→Option Nat)(m:Img)(c:CK)(s:CS)(b:Bool)(fl:Int): (CAs fx m c s b fl).all (Ob.below (CAs fx m c s b fl).length)=true:=rfl
theorem zNc{f:FuncId}{fn:Func}{cd:Code}{avs:List SV}{m:Img}{c c':CK}{s:CS}{b:Bool}{fl:Int}{N:Nat}{rs:Array ResultVar}(hf:Tryz.prog.funcs[f]?=some fn)(hb:fn.body=some cd)(hN:fn.ntmps=N)(hrs:fn.results=rs)(hl:Nat.ble avs.length N=true)
  (h:∀(w0:World) (St0:Stab) (X:Nat→Prop) (fx:Nat→Option Nat),awp ⟨Tryz.prog,N,w0,St0,X,0⟩ cd (zBn rs .top (CAs fx m c' s b fl)) (zF8 avs 0) (CAs fx m c s b fl)):zAW Tryz.prog f avs (CXs m c s b fl) .top (CXs m c' s b fl) :=
 zFB hf hb hN hrs hl rfl rfl h
theorem zRh{fx:Nat→Option Nat}{m:Img}{c:CK}{s:CS}{b:Bool}{fl:Int}{tl:List Ob}: Pre (CAs fx m c s b fl) (CAs fx m c s b fl++tl):=zAP rfl rfl (zAP rfl rfl (zAP rfl rfl (zAP rfl rfl (zAP rfl rfl (zAP rfl rfl (zAP rfl rfl zA7))))))
theorem zQd{fx:Nat→Option Nat}{m:Img}{c:CK}{s:CS}{b:Bool}{fl:Int}{σ:Sl}{η tl:List Ob}(he:η=CAs fx m c s b fl++tl): zBn #[] .top (CAs fx m c s b fl) .normal σ η:=by
 subst he
 exact zCe ⟨rfl,zAV zAd zRh rfl (zRs fx m c s b fl)⟩
theorem zQc{fx:Nat→Option Nat}{m:Img}{c:CK}{s:CS}{b:Bool}{fl:Int}{σ:Sl}{η tl:List Ob}(he:η=CAs fx m c s b fl++tl): zBn #[] .top (CAs fx m c s b fl) .ret σ η:=by
 subst he
 exact zC8 ⟨rfl,zAV zAd zRh rfl (zRs fx m c s b fl)⟩
attribute [local irreducible] zAQ Program.underlying Ylds zBD alex zCA zBi awp zAp zCI zCH zAW zBw zA5 zD4 zB0 zBp zBF zBv zB9 zCE zES zBn zBm zBs
abbrev zD3(m:Img)(c c':CK)(s:CS)(b:Bool)(fl takes puts:Int)(holds:Bool)(dst:SV): Prop:=zAW Tryz.prog 120 [.d (i64 takes),.d (i64 puts),.d (bl holds),dst,.ptr 4 0,.ptr 5 0,.ptr 6 0] (CXs m c s b fl) .top (CXs m c' s b fl)
theorem zM9(m:Img)(c:CK)(s:CS)(b:Bool)(fl takes puts:Int)(dst:SV): zD3 m c { c with bad:=true } s b fl takes puts false dst:=by
 refine zNc Tryz.func120 rfl Tryz.ntmps120 Tryz.results120 rfl ?_
 intro wb St0 X fx
 repeat' first|apply en_n|apply zAK|apply zAA|apply zAF|apply w0|exact zAN rfl|(apply zAG;exact rfl;(with_reducible exact zAw);exact rfl;exact rfl)|(apply k0u (hd:=rfl);exact rfl;exact rfl)|apply ay (hd:=rfl)|exact zAJ rfl|exact zBd rfl|exact zAj rfl rfl|(apply zAC;exact rfl;(with_reducible exact zCy))|(refine w0' ?_)|(apply zAl;exact rfl;exact rfl;exact rfl;(with_reducible exact zAg);exact rfl;exact rfl;exact rfl;exact rfl)|(apply zAL;exact rfl)|apply zAT|apply en_r
 all_goals exact zQc rfl
theorem zK3(m:Img)(c:CK)(s:CS)(b:Bool)(fl takes puts:Int)(dst:SV)(h:s.height-takes<fl)(hb:0≤s.height∧s.height≤2000000∧0≤takes∧takes≤2000000): zD3 m c { c with bad:=true } s b fl takes puts true dst:=by
 refine zNc Tryz.func120 rfl Tryz.ntmps120 Tryz.results120 rfl ?_
 intro wb St0 X fx
 repeat' first|apply en_n|apply zAK|apply zAA|apply zAF|apply w0|exact zAN rfl|(apply zAG;exact rfl;(with_reducible exact zAw);exact rfl;exact rfl)|(apply zC9;exact rfl;exact rfl;first|assumption|omega)|apply ay (hd:=rfl)|exact zAJ rfl|(apply zDX;exact rfl;exact rfl)|exact zBd rfl|exact zAc rfl rfl|(apply zAC;exact rfl;(with_reducible first|exact zBy|exact zCy))|(apply zAG;exact rfl;(with_reducible exact zAS);exact rfl;exact rfl)|(apply w1;exact rfl;exact rfl)|(refine w0' ?_)|(apply zAl;exact rfl;exact rfl;exact rfl;(with_reducible exact zAg);exact rfl;exact rfl;exact rfl;exact rfl)|(apply zAL;exact rfl)|apply zAT|apply en_r
 all_goals first|omega|skip
 all_goals exact zQc rfl
theorem zSS(m:Img)(s:CS)(b:Bool)(fl takes puts:Int)(ts:List Int)(acc:Nat→CK)(h:¬s.height-takes<fl)(hb:0≤s.height∧s.height≤2000000∧0≤takes∧takes≤2000000∧0≤puts∧puts≤2000000)(hl:ts.length≤1000)(hC:∀i t,ts[i]?=some t→zHj m (acc i) (acc (i+1)) t ⟨s.of,s.height-takes+puts,s.tries⟩): zD3 m (acc 0) (acc ts.length) s b fl takes puts true (.d (zCL ts)):=by
 refine zNc Tryz.func120 rfl Tryz.ntmps120 Tryz.results120 rfl ?_
 intro wb St0 X fx
 repeat' first|apply en_n|apply zAK|apply zAA|apply zAF|apply w0|(apply zCk;exact rfl;exact rfl;first|assumption|omega)|(refine zCX (cs:=[i64 s.of,i64 (s.height-takes+puts),zCL s.tries,bl false]) zGR zEd (PD_d rfl rfl (PD_d rfl rfl (PD_d rfl rfl zDR))) rfl)|(apply zAl;exact rfl;exact rfl;exact rfl;(with_reducible exact zEe);exact rfl;exact rfl;exact rfl;exact rfl)|(apply zDs (hd:=rfl) (hro:=rfl);(with_reducible exact zEd))|apply ay (hd:=rfl)|exact zAJ rfl|(apply zBZ;exact rfl;(with_reducible exact zCY))|(apply zBL;exact rfl;exact rfl)|(apply zDX;exact rfl;exact rfl)|exact zBd rfl|exact zAc rfl rfl|(apply zAC;exact rfl;(with_reducible first|exact zCz|exact zBy|exact zBf))|(apply zAG;exact rfl;(with_reducible first|exact zAS|exact zAx);exact rfl;exact rfl)|(apply w1;exact rfl;exact rfl)|(refine w0' ?_)|(apply zAM;exact rfl)|apply zAO|apply zAU
 all_goals first|omega|skip
 refine zBo (α:=Nat) (fun i=>i≤ts.length) (fun i=>[(6,.ptr 6 0),(11,.ptr 7 0),(38,.d (zCL ts)),(39,.d (i64 (ts.length:Int))),(40,.d (i64 (i:Int)))]) (fun i=>CA fx m (acc i)++[.bx (fx 4) none [.d (i64 s.of),.d (i64 s.height),.d (zCL s.tries),.d (bl b)],.bx (fx 5) none [.d (i64 fl)],.bx (fx 6) none [.ptr 0 0],.box [.d (i64 s.of),.d (i64 (s.height-takes+puts)),.d (zCL s.tries),.d (bl false)]]) (fun i=>ts.length-i) 0 (Nat.zero_le _) ?_ ?_
 ·exact zAV (zAI rfl (zAI rfl (zAI rfl (zAI rfl (zAI rfl zAd))))) (zB2 _) rfl rfl
 intro i hi
 rcases Nat.lt_or_ge i ts.length with hlt|hge
 ·obtain⟨t,ht⟩:∃t,ts[i]?=some t:=⟨_,List.getElem?_eq_getElem hlt⟩
  have hCi:=hC i t ht
  have hat:(ts.map ival)[((i:Nat):Int).toNat]?=some (ival t):=by rw[Int.toNat_natCast,List.getElem?_map,ht];rfl
  have hc:(i:Int)<(ts.length:Int):=by omega
  skip
  repeat' first|apply en_n|apply zAK|apply zAA|apply zAF|apply w0|(apply zC9;exact rfl;exact rfl;first|assumption|omega)|(apply zBG;exact rfl;(with_reducible exact zEe);exact rfl;exact rfl;exact rfl)|(refine aCK (tl:=[.bx (fx 4) none [.d (i64 s.of),.d (i64 s.height),.d (zCL s.tries),.d (bl b)],.bx (fx 5) none [.d (i64 fl)],.bx (fx 6) none [.ptr 0 0],.box [.d (i64 s.of),.d (i64 (s.height-takes+puts)),.d (zCL s.tries),.d (bl false)]]) (tl':=[.bx (fx 4) none [.d (i64 s.of),.d (i64 s.height),.d (zCL s.tries),.d (bl b)],.bx (fx 5) none [.d (i64 fl)],.bx (fx 6) none [.ptr 0 0],.box [.d (i64 s.of),.d (i64 (s.height-takes+puts)),.d (zCL s.tries),.d (bl false)]]) zFY hCi ?_ rfl rfl rfl rfl ?_;(repeat (refine zAB rfl ?_));exact zAE)|(apply aJ (hd:=rfl);(first|exact zCw rfl|exact zDn rfl rfl rfl|exact Co_nn rfl);exact rfl;(with_reducible exact zBK);assumption;omega;exact fun _=>rfl)|apply ay (hd:=rfl)|exact zAJ rfl|exact zAD rfl|(apply zC3;exact rfl;(with_reducible exact zAS))|(apply zBL;exact rfl;exact rfl)|(apply zAG;exact rfl;(with_reducible exact zAw);exact rfl;exact rfl)|(apply zAL;exact rfl)|apply zAO|apply zAU|apply eb_n
  all_goals first|omega|skip
  refine⟨i+1,hlt,by omega,zAV (zAI rfl (zAI rfl (zAI rfl (zAI rfl (Le_d rfl (by push_cast;rfl) zAd))))) (zB2 _) rfl rfl⟩
 ·have e:i=ts.length:=by omega
  subst e
  have hc:¬(ts.length:Int)<(ts.length:Int):=by omega
  repeat' first|apply en_n|apply zAK|apply zAA|apply zAF|apply w0|(apply zCk;exact rfl;exact rfl;first|assumption|omega)|apply ay (hd:=rfl)|(apply zAM;exact rfl)|apply zBu|apply en_e|apply eb_e
  all_goals first|omega|skip
  all_goals exact zQd (tl:=[.box [.d (i64 s.of),.d (i64 (s.height-takes+puts)),.d (zCL s.tries),.d (bl false)]]) rfl
theorem zPj(m:Img)(s:CS)(b:Bool)(fl takes puts:Int)(c:CK)(h:¬s.height-takes<fl)(hb:0≤s.height∧s.height≤2000000∧0≤takes∧takes≤2000000∧0≤puts∧puts≤2000000): zD3 m c c s b fl takes puts true (.nil):=by
 refine zNc Tryz.func120 rfl Tryz.ntmps120 Tryz.results120 rfl ?_
 intro wb St0 X fx
 repeat' first|apply en_n|apply zAK|apply zAA|apply zAF|apply w0|(apply zCk;exact rfl;exact rfl;first|assumption|omega)|(refine zCX (cs:=[i64 s.of,i64 (s.height-takes+puts),zCL s.tries,bl false]) zGR zEd (PD_d rfl rfl (PD_d rfl rfl (PD_d rfl rfl zDR))) rfl)|(apply zAl;exact rfl;exact rfl;exact rfl;(with_reducible exact zEe);exact rfl;exact rfl;exact rfl;exact rfl)|(apply zDs (hd:=rfl) (hro:=rfl);(with_reducible exact zEd))|apply ay (hd:=rfl)|exact zAJ rfl|(apply zBL;exact rfl;exact rfl)|(apply zDX;exact rfl;exact rfl)|exact zBd rfl|exact zAc rfl rfl|exact zPG rfl|(apply zRZ;exact rfl;(with_reducible exact zCY))|(apply zAC;exact rfl;(with_reducible first|exact zCz|exact zBy|exact zBf))|(apply zAG;exact rfl;(with_reducible first|exact zAS|exact zAx);exact rfl;exact rfl)|(apply w1;exact rfl;exact rfl)|(refine w0' ?_)|(apply zAM;exact rfl)|apply zAO|apply zAU
 all_goals first|omega|skip
 refine zBo (α:=Unit) (fun _=>True) (fun _=>[(39,.d (i64 0)),(40,.d (i64 0))]) (fun _=>CA fx m (c)++[.bx (fx 4) none [.d (i64 s.of),.d (i64 s.height),.d (zCL s.tries),.d (bl b)],.bx (fx 5) none [.d (i64 fl)],.bx (fx 6) none [.ptr 0 0],.box [.d (i64 s.of),.d (i64 (s.height-takes+puts)),.d (zCL s.tries),.d (bl false)]]) (fun _=>0) () trivial ?_ ?_
 ·exact zAV (zAI rfl (zAI rfl zAd)) (zB2 _) rfl rfl
 intro i hi
 have hc:¬(0:Int)<0:=by omega
 repeat' first|apply en_n|apply zAK|apply zAA|apply zAF|apply w0|(apply zCk;exact rfl;exact rfl;first|assumption|omega)|apply ay (hd:=rfl)|(apply zAM;exact rfl)|apply zBu|apply en_e|apply eb_e
 all_goals first|omega|skip
 all_goals exact zQd (tl:=[.box [.d (i64 s.of),.d (i64 (s.height-takes+puts)),.d (zCL s.tries),.d (bl false)]]) rfl
end Go.Proofs.YtcagoomibpcdlaaGreatDoor
