/- Parts of the proof. -/
import Derived.Test.YtcagoomibpcdlaaGreatDoorMBL
set_option maxHeartbeats 16000000
namespace Go.Proofs.YtcagoomibpcdlaaGreatDoor
open _root_.Go.Proofs.Tryz
open Go.Sx Go.Vm
abbrev CXs(m:Img)(c:CK)(s:CS)(b:Bool)(fl:Int): List Ob:=CX m c++[.box [.d (i64 s.of),.d (i64 s.height),.d (zCK s.tries),.d (bl b)],.box [.d (i64 fl)],.box [.ptr 0 0]]
def CAs(fx:Nat->Option Nat)(m:Img)(c:CK)(s:CS)(b:Bool)(fl:Int): List Ob:=CA fx m c++[.bx (fx 4) none [.d (i64 s.of),.d (i64 s.height),.d (zCK s.tries),.d (bl b)],.bx (fx 5) none [.d (i64 fl)],.bx (fx 6) none [.ptr 0 0]]
theorem zSW(fx:Nat->Option Nat)(m:Img)(c:CK)(s:CS)(b:Bool)(fl:Int): (CAs fx m c s b fl).all (Ob.below (CAs fx m c s b fl).length)=true:=rfl
theorem zN7{f:FuncId}{fn:Func}{cd:Code}{avs:List SV}{m:Img}{c c':CK}{s:CS}{b:Bool}{fl:Int}{N:Nat}{rs:Array ResultVar}(hf:prog.funcs[f]?=some fn)(hb:fn.body=some cd)(hN:fn.ntmps=N)(hrs:fn.results=rs)(hl:Nat.ble avs.length N=true)
  (h:∀(w0:World) (St0:Stab) (X:Nat->Prop) (fx:Nat->Option Nat),awp ⟨prog,N,w0,St0,X,0⟩ cd (zBi rs .top (CAs fx m c' s b fl)) (zGT avs 0) (CAs fx m c s b fl)):zAU prog f avs (CXs m c s b fl) .top (CXs m c' s b fl) :=
 zFR hf hb hN hrs hl rfl rfl h
theorem zSL{fx:Nat->Option Nat}{m:Img}{c:CK}{s:CS}{b:Bool}{fl:Int}{tl:List Ob}: Pre (CAs fx m c s b fl) (CAs fx m c s b fl++tl):=zAO rfl rfl (zAO rfl rfl (zAO rfl rfl (zAO rfl rfl (zAO rfl rfl (zAO rfl rfl (zAO rfl rfl zAt))))))
theorem zRF{fx:Nat->Option Nat}{m:Img}{c:CK}{s:CS}{b:Bool}{fl:Int}{σ:Sl}{η tl:List Ob}(he:η=CAs fx m c s b fl++tl): zBi #[] .top (CAs fx m c s b fl) .normal σ η:=by
 subst he
 exact zCj ⟨rfl,zAT Le_nil zSL rfl (zSW fx m c s b fl)⟩
theorem zRE{fx:Nat->Option Nat}{m:Img}{c:CK}{s:CS}{b:Bool}{fl:Int}{σ:Sl}{η tl:List Ob}(he:η=CAs fx m c s b fl++tl): zBi #[] .top (CAs fx m c s b fl) .ret σ η:=by
 subst he
 exact zDF ⟨rfl,zAT Le_nil zSL rfl (zSW fx m c s b fl)⟩
attribute [local irreducible] zAN Program.underlying Ylds zA9 alex zB3 zBf awp zAi zCC zCB zAU zBl zAz zDt zBq zBj zBB zBr zB2 zB8 zD7 zBi zBd zBg
abbrev zEH(m:Img)(c c':CK)(s:CS)(b:Bool)(fl takes puts:Int)(holds:Bool)(dst:SV): Prop:=zAU prog 120 [.d (i64 takes),.d (i64 puts),.d (bl holds),dst,.ptr 4 0,.ptr 5 0,.ptr 6 0] (CXs m c s b fl) .top (CXs m c' s b fl)
theorem zNe(m:Img)(c:CK)(s:CS)(b:Bool)(fl takes puts:Int)(dst:SV): zEH m c { c with bad:=true } s b fl takes puts false dst:=by
 refine zN7 func120 rfl ntmps120 results120 rfl ?_
 intro wb St0 X fx
 repeat' first|apply en_n|apply zAH|apply zAA|apply zAD|apply w0|exact zAK rfl|exact zAE rfl zAu rfl rfl|(apply k0u (hd:=rfl);exact rfl;exact rfl)|apply ay (hd:=rfl)|exact zAF rfl|exact zBX rfl|exact zAa rfl rfl|exact zAC rfl zC4|(refine w0' ?_)|refine zAh rfl rfl rfl zAc rfl rfl rfl rfl ?_|refine zAI rfl ?_|apply zAQ|apply en_r
 all_goals exact zRE rfl
theorem zLR(m:Img)(c:CK)(s:CS)(b:Bool)(fl takes puts:Int)(dst:SV)(h:s.height-takes<fl)(hb:0<=s.height/\s.height<=2000000/\0<=takes/\takes<=2000000): zEH m c { c with bad:=true } s b fl takes puts true dst:=by
 refine zN7 func120 rfl ntmps120 results120 rfl ?_
 intro wb St0 X fx
 repeat' first|apply en_n|apply zAH|apply zAA|apply zAD|apply w0|exact zAK rfl|exact zAE rfl zAu rfl rfl|exact zC9 rfl rfl|apply ay (hd:=rfl)|exact zAF rfl|refine zDb rfl rfl ?_|exact zBX rfl|exact zAX rfl rfl|(apply zAC;exact rfl;(with_reducible first|exact zB0|exact zC4))|exact zAE rfl zAP rfl rfl|refine w1 rfl rfl ?_|(refine w0' ?_)|refine zAh rfl rfl rfl zAc rfl rfl rfl rfl ?_|refine zAI rfl ?_|apply zAQ|apply en_r
 all_goals first|omega|skip
 all_goals exact zRE rfl
theorem zS5(m:Img)(s:CS)(b:Bool)(fl takes puts:Int)(ts:List Int)(acc:Nat->CK)(h:¬s.height-takes<fl)(hb:0<=s.height/\s.height<=2000000/\0<=takes/\takes<=2000000/\0<=puts/\puts<=2000000)(hl:ts.length<=1000)(hC:∀i t,ts[i]?=some t->zHz m (acc i) (acc (i+1)) t ⟨s.of,s.height-takes+puts,s.tries⟩): zEH m (acc 0) (acc ts.length) s b fl takes puts true (.d (zCK ts)):=by
 refine zN7 func120 rfl ntmps120 results120 rfl ?_
 intro wb St0 X fx
 repeat' first|apply en_n|apply zAH|apply zAA|apply zAD|apply w0|exact zCm rfl rfl|(refine zBY (cs:=[i64 s.of,i64 (s.height-takes+puts),zCK s.tries,bl false]) zGh zEn (PD_d rfl rfl (PD_d rfl rfl (PD_d rfl rfl zCf))) rfl)|refine zAh rfl rfl rfl zEo rfl rfl rfl rfl ?_|(apply zDI (hd:=rfl) (hro:=rfl);(with_reducible exact zEn))|apply ay (hd:=rfl)|exact zAF rfl|exact zBI rfl zCc|refine zBE rfl rfl ?_|refine zDb rfl rfl ?_|exact zBX rfl|exact zAX rfl rfl|(apply zAC;exact rfl;(with_reducible first|exact zC5|exact zB0|exact zBm))|(apply zAE;exact rfl;(with_reducible first|exact zAP|exact zAw);exact rfl;exact rfl)|refine w1 rfl rfl ?_|(refine w0' ?_)|refine zAJ rfl ?_|apply zAL|apply zAS
 all_goals first|omega|skip
 refine zBW (α:=Nat) (fun i=>i<=ts.length) (fun i=>[(6,.ptr 6 0),(11,.ptr 7 0),(38,.d (zCK ts)),(39,.d (i64 (ts.length:Int))),(40,.d (i64 (i:Int)))]) (fun i=>CA fx m (acc i)++[.bx (fx 4) none [.d (i64 s.of),.d (i64 s.height),.d (zCK s.tries),.d (bl b)],.bx (fx 5) none [.d (i64 fl)],.bx (fx 6) none [.ptr 0 0],.box [.d (i64 s.of),.d (i64 (s.height-takes+puts)),.d (zCK s.tries),.d (bl false)]]) (fun i=>ts.length-i) 0 (qAX _) ?_ ?_
 ·exact zAT (Le_all rfl) (zB5 _) rfl rfl
 intro i hi
 rcases qAR i ts.length with hlt|hge
 ·obtain⟨t,ht⟩:∃t,ts[i]?=some t:=⟨_,qAB hlt⟩
  have hCi:=hC i t ht
  have hat:(ts.map ival)[((i:Nat):Int).toNat]?=some (ival t):=by rw[qAj,qAL,ht];rfl
  have hc:(i:Int)<(ts.length:Int):=by omega
  skip
  repeat' first|apply en_n|apply zAH|apply zAA|apply zAD|apply w0|exact zC9 rfl rfl|exact zA4 rfl zEo rfl rfl rfl|(refine aCK (tl:=[.bx (fx 4) none [.d (i64 s.of),.d (i64 s.height),.d (zCK s.tries),.d (bl b)],.bx (fx 5) none [.d (i64 fl)],.bx (fx 6) none [.ptr 0 0],.box [.d (i64 s.of),.d (i64 (s.height-takes+puts)),.d (zCK s.tries),.d (bl false)]]) (tl':=[.bx (fx 4) none [.d (i64 s.of),.d (i64 s.height),.d (zCK s.tries),.d (bl b)],.bx (fx 5) none [.d (i64 fl)],.bx (fx 6) none [.ptr 0 0],.box [.d (i64 s.of),.d (i64 (s.height-takes+puts)),.d (zCK s.tries),.d (bl false)]]) zFr hCi (SArgs_all rfl) rfl rfl rfl rfl ?_)|(apply aJ (hd:=rfl);(first|exact zCW rfl|exact zC3 rfl rfl rfl|exact Co_nn rfl);exact rfl;(with_reducible exact zBJ);assumption;omega;exact fun _=>rfl)|apply ay (hd:=rfl)|exact zAF rfl|exact zAB rfl|exact zCb rfl zAP|refine zBE rfl rfl ?_|exact zAE rfl zAu rfl rfl|refine zAI rfl ?_|apply zAL|apply zAS|apply eb_n
  all_goals first|omega|skip
  refine⟨i+1,hlt,by omega,zAT (Le_cons rfl (Le_cons rfl (Le_cons rfl (Le_cons rfl (Le_d rfl (by push_cast;rfl) Le_nil))))) (zB5 _) rfl rfl⟩
 ·have e:i=ts.length:=by omega
  subst e
  have hc:¬(ts.length:Int)<(ts.length:Int):=by omega
  repeat' first|apply en_n|apply zAH|apply zAA|apply zAD|apply w0|exact zCm rfl rfl|apply ay (hd:=rfl)|refine zAJ rfl ?_|apply zBc|apply en_e|apply eb_e
  all_goals first|omega|skip
  all_goals exact zRF (tl:=[.box [.d (i64 s.of),.d (i64 (s.height-takes+puts)),.d (zCK s.tries),.d (bl false)]]) rfl
theorem zQK(m:Img)(s:CS)(b:Bool)(fl takes puts:Int)(c:CK)(h:¬s.height-takes<fl)(hb:0<=s.height/\s.height<=2000000/\0<=takes/\takes<=2000000/\0<=puts/\puts<=2000000): zEH m c c s b fl takes puts true (.nil):=by
 refine zN7 func120 rfl ntmps120 results120 rfl ?_
 intro wb St0 X fx
 repeat' first|apply en_n|apply zAH|apply zAA|apply zAD|apply w0|exact zCm rfl rfl|(refine zBY (cs:=[i64 s.of,i64 (s.height-takes+puts),zCK s.tries,bl false]) zGh zEn (PD_d rfl rfl (PD_d rfl rfl (PD_d rfl rfl zCf))) rfl)|refine zAh rfl rfl rfl zEo rfl rfl rfl rfl ?_|(apply zDI (hd:=rfl) (hro:=rfl);(with_reducible exact zEn))|apply ay (hd:=rfl)|exact zAF rfl|refine zBE rfl rfl ?_|refine zDb rfl rfl ?_|exact zBX rfl|exact zAX rfl rfl|exact zPt rfl|exact zSE rfl zCc|(apply zAC;exact rfl;(with_reducible first|exact zC5|exact zB0|exact zBm))|(apply zAE;exact rfl;(with_reducible first|exact zAP|exact zAw);exact rfl;exact rfl)|refine w1 rfl rfl ?_|(refine w0' ?_)|refine zAJ rfl ?_|apply zAL|apply zAS
 all_goals first|omega|skip
 refine zBW (α:=Unit) (fun _=>True) (fun _=>[(39,.d (i64 0)),(40,.d (i64 0))]) (fun _=>CA fx m (c)++[.bx (fx 4) none [.d (i64 s.of),.d (i64 s.height),.d (zCK s.tries),.d (bl b)],.bx (fx 5) none [.d (i64 fl)],.bx (fx 6) none [.ptr 0 0],.box [.d (i64 s.of),.d (i64 (s.height-takes+puts)),.d (zCK s.tries),.d (bl false)]]) (fun _=>0) () trivial ?_ ?_
 ·exact zAT (Le_all rfl) (zB5 _) rfl rfl
 intro i hi
 have hc:¬(0:Int)<0:=by omega
 repeat' first|apply en_n|apply zAH|apply zAA|apply zAD|apply w0|exact zCm rfl rfl|apply ay (hd:=rfl)|refine zAJ rfl ?_|apply zBc|apply en_e|apply eb_e
 all_goals first|omega|skip
 all_goals exact zRF (tl:=[.box [.d (i64 s.of),.d (i64 (s.height-takes+puts)),.d (zCK s.tries),.d (bl false)]]) rfl
end Go.Proofs.YtcagoomibpcdlaaGreatDoor
