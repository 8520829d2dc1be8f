/- Parts of the proof. -/
import Derived.Test.YtcagoomibpcdlaaGreatDoorMBG
set_option maxHeartbeats 16000000
namespace Go.Proofs.YtcagoomibpcdlaaGreatDoor
open _root_.Go.Proofs.Tryz
open Go.Sx Go.Vm
abbrev CXs(m:Img)(c:CK)(s:CS)(b:Bool)(fl:Int): List Ob:=CX m c++[.box [.d (i64 s.of),.d (i64 s.height),.d (zBW s.tries),.d (bl b)],.box [.d (i64 fl)],.box [.ptr 0 0]]
def CAs(fx:Nat->Option Nat)(m:Img)(c:CK)(s:CS)(b:Bool)(fl:Int): List Ob:=CA fx m c++[.bx (fx 4) none [.d (i64 s.of),.d (i64 s.height),.d (zBW s.tries),.d (bl b)],.bx (fx 5) none [.d (i64 fl)],.bx (fx 6) none [.ptr 0 0]]
theorem zTH(fx:Nat->Option Nat)(m:Img)(c:CK)(s:CS)(b:Bool)(fl:Int): (CAs fx m c s b fl).all (Ob.below (CAs fx m c s b fl).length)=true:=rfl
theorem zOk{f:FuncId}{fn:Func}{cd:Code}{avs:List SV}{m:Img}{c c':CK}{s:CS}{b:Bool}{fl:Int}{N:Nat}{rs:Array ResultVar}(hf:prog.funcs[f]?=some fn)(hb:fn.body=some cd)(hN:fn.ntmps=N)(hrs:fn.results=rs)(hl:Nat.ble avs.length N=true)
  (h:∀(w0:World) (St0:Stab) (X:Nat->Prop) (fx:Nat->Option Nat),awp ⟨prog,N,w0,St0,X,0⟩ cd (zBm rs .top (CAs fx m c' s b fl)) (zGU avs 0) (CAs fx m c s b fl)):zAU prog f avs (CXs m c s b fl) .top (CXs m c' s b fl) :=
 zFV hf hb hN hrs hl rfl rfl h
theorem zS6{fx:Nat->Option Nat}{m:Img}{c:CK}{s:CS}{b:Bool}{fl:Int}{tl:List Ob}: Pre (CAs fx m c s b fl) (CAs fx m c s b fl++tl):=zAN rfl rfl (zAN rfl rfl (zAN rfl rfl (zAN rfl rfl (zAN rfl rfl (zAN rfl rfl (zAN rfl rfl zAs))))))
theorem zR1{fx:Nat->Option Nat}{m:Img}{c:CK}{s:CS}{b:Bool}{fl:Int}{σ:Sl}{η tl:List Ob}(he:η=CAs fx m c s b fl++tl): zBm #[] .top (CAs fx m c s b fl) .normal σ η:=by
 subst he
 exact zCl ⟨rfl,zAS Le_nil zS6 rfl (zTH fx m c s b fl)⟩
theorem zR0{fx:Nat->Option Nat}{m:Img}{c:CK}{s:CS}{b:Bool}{fl:Int}{σ:Sl}{η tl:List Ob}(he:η=CAs fx m c s b fl++tl): zBm #[] .top (CAs fx m c s b fl) .ret σ η:=by
 subst he
 exact zDI ⟨rfl,zAS Le_nil zS6 rfl (zTH fx m c s b fl)⟩
attribute [local irreducible] zAO Program.underlying Ylds zBE alex zB0 zBk awp zAg zB9 zB8 zAU zBj zA6 zDJ zBl zBn zBC zBq zBz zB7 zDQ zBm zBc zBe
abbrev zEL(m:Img)(c c':CK)(s:CS)(b:Bool)(fl takes puts:Int)(holds:Bool)(dst:SV): Prop:=zAU prog 120 [.d (i64 takes),.d (i64 puts),.d (bl holds),dst,.ptr 4 0,.ptr 5 0,.ptr 6 0] (CXs m c s b fl) .top (CXs m c' s b fl)
theorem zOE(m:Img)(c:CK)(s:CS)(b:Bool)(fl takes puts:Int)(dst:SV): zEL m c { c with bad:=true } s b fl takes puts false dst:=by
 refine zOk func120 rfl ntmps120 results120 rfl ?_
 intro wb St0 X fx
 repeat' first|apply en_n|apply zAG|apply zAA|apply zAD|apply w0|exact zAL rfl|exact zAE rfl zA1 rfl rfl|refine k0u (hd:=rfl) rfl rfl ?_|apply ay (hd:=rfl)|exact zAF rfl|exact zBS rfl|exact zAZ rfl rfl|exact zAC rfl zC6|(refine w0' ?_)|refine zAj rfl rfl rfl zAb rfl rfl rfl rfl ?_|refine zAI rfl ?_|apply zAQ|apply en_r
 all_goals exact zR0 rfl
theorem zLy(m:Img)(c:CK)(s:CS)(b:Bool)(fl takes puts:Int)(dst:SV)(h:s.height-takes<fl)(hb:0<=s.height/\s.height<=2000000/\0<=takes/\takes<=2000000): zEL m c { c with bad:=true } s b fl takes puts true dst:=by
 refine zOk func120 rfl ntmps120 results120 rfl ?_
 intro wb St0 X fx
 repeat' first|apply en_n|apply zAG|apply zAA|apply zAD|apply w0|exact zAL rfl|exact zAE rfl zA1 rfl rfl|exact zCf rfl rfl|apply ay (hd:=rfl)|exact zAF rfl|refine zC2 rfl rfl ?_|exact zBS rfl|exact zAV rfl rfl|(apply zAC;exact rfl;(with_reducible first|exact zCA|exact zC6))|exact zAE rfl zAP rfl rfl|refine w1 rfl rfl ?_|(refine w0' ?_)|refine zAj rfl rfl rfl zAb rfl rfl rfl rfl ?_|refine zAI rfl ?_|apply zAQ|apply en_r
 all_goals first|omega|skip
 all_goals exact zR0 rfl
theorem zTp(m:Img)(s:CS)(b:Bool)(fl takes puts:Int)(ts:List Int)(acc:Nat->CK)(h:¬s.height-takes<fl)(hb:0<=s.height/\s.height<=2000000/\0<=takes/\takes<=2000000/\0<=puts/\puts<=2000000)(hl:ts.length<=1000)(hC:∀i t,ts[i]?=some t->zIE m (acc i) (acc (i+1)) t ⟨s.of,s.height-takes+puts,s.tries⟩): zEL m (acc 0) (acc ts.length) s b fl takes puts true (.d (zBW ts)):=by
 refine zOk func120 rfl ntmps120 results120 rfl ?_
 intro wb St0 X fx
 repeat' first|apply en_n|apply zAG|apply zAA|apply zAD|apply w0|exact zCY rfl rfl|(refine zBr (cs:=[i64 s.of,i64 (s.height-takes+puts),zBW s.tries,bl false]) zGq zEv (PD_d rfl rfl (PD_d rfl rfl (PD_d rfl rfl zCi))) rfl)|refine zAj rfl rfl rfl zEw rfl rfl rfl rfl ?_|(apply zDv (hd:=rfl) (hro:=rfl);(with_reducible exact zEv))|apply ay (hd:=rfl)|exact zAF rfl|exact zBD rfl zCP|refine zBG rfl rfl ?_|refine zC2 rfl rfl ?_|exact zBS rfl|exact zAV rfl rfl|(apply zAC;exact rfl;(with_reducible first|exact zC7|exact zCA|exact zBv))|(apply zAE;exact rfl;(with_reducible first|exact zAP|exact zAt);exact rfl;exact rfl)|refine w1 rfl rfl ?_|(refine w0' ?_)|refine zAJ rfl ?_|apply zAK|apply zAR
 all_goals first|omega|skip
 refine zBV (α:=Nat) (fun i=>i<=ts.length) (fun i=>[(6,.ptr 6 0),(11,.ptr 7 0),(38,.d (zBW ts)),(39,.d (i64 (ts.length:Int))),(40,.d (i64 (i:Int)))]) (fun i=>CA fx m (acc i)++[.bx (fx 4) none [.d (i64 s.of),.d (i64 s.height),.d (zBW s.tries),.d (bl b)],.bx (fx 5) none [.d (i64 fl)],.bx (fx 6) none [.ptr 0 0],.box [.d (i64 s.of),.d (i64 (s.height-takes+puts)),.d (zBW s.tries),.d (bl false)]]) (fun i=>ts.length-i) 0 (qAV _) ?_ ?_
 ·exact zAS (Le_all rfl) (zBF _) rfl rfl
 intro i hi
 rcases qAQ i ts.length with hlt|hge
 ·obtain⟨t,ht⟩:∃t,ts[i]?=some t:=⟨_,qAB hlt⟩
  have hCi:=hC i t ht
  have hat:(ts.map ival)[((i:Nat):Int).toNat]?=some (ival t):=by rw[qAj,qAL,ht];rfl
  have hc:(i:Int)<(ts.length:Int):=by omega
  skip
  repeat' first|apply en_n|apply zAG|apply zAA|apply zAD|apply w0|exact zCf rfl rfl|exact zBA rfl zEw rfl rfl rfl|(refine aCK (tl:=[.bx (fx 4) none [.d (i64 s.of),.d (i64 s.height),.d (zBW s.tries),.d (bl b)],.bx (fx 5) none [.d (i64 fl)],.bx (fx 6) none [.ptr 0 0],.box [.d (i64 s.of),.d (i64 (s.height-takes+puts)),.d (zBW s.tries),.d (bl false)]]) (tl':=[.bx (fx 4) none [.d (i64 s.of),.d (i64 s.height),.d (zBW s.tries),.d (bl b)],.bx (fx 5) none [.d (i64 fl)],.bx (fx 6) none [.ptr 0 0],.box [.d (i64 s.of),.d (i64 (s.height-takes+puts)),.d (zBW s.tries),.d (bl false)]]) zFx hCi (SArgs_all rfl) rfl rfl rfl rfl ?_)|(apply aJ (hd:=rfl);(first|exact zCQ rfl|exact zCp rfl rfl rfl|exact Co_nn rfl);exact rfl;(with_reducible exact zA5);assumption;omega;exact fun _=>rfl)|apply ay (hd:=rfl)|exact zAF rfl|exact zAB rfl|exact zCK rfl zAP|refine zBG rfl rfl ?_|exact zAE rfl zA1 rfl rfl|refine zAI rfl ?_|apply zAK|apply zAR|apply eb_n
  all_goals first|omega|skip
  refine⟨i+1,hlt,by omega,zAS (Le_cons rfl (Le_cons rfl (Le_cons rfl (Le_cons rfl (Le_d rfl (by push_cast;rfl) Le_nil))))) (zBF _) rfl rfl⟩
 ·have e:i=ts.length:=by omega
  subst e
  have hc:¬(ts.length:Int)<(ts.length:Int):=by omega
  repeat' first|apply en_n|apply zAG|apply zAA|apply zAD|apply w0|exact zCY rfl rfl|apply ay (hd:=rfl)|refine zAJ rfl ?_|apply zBX|apply en_e|apply eb_e
  all_goals first|omega|skip
  all_goals exact zR1 (tl:=[.box [.d (i64 s.of),.d (i64 (s.height-takes+puts)),.d (zBW s.tries),.d (bl false)]]) rfl
theorem zQ0(m:Img)(s:CS)(b:Bool)(fl takes puts:Int)(c:CK)(h:¬s.height-takes<fl)(hb:0<=s.height/\s.height<=2000000/\0<=takes/\takes<=2000000/\0<=puts/\puts<=2000000): zEL m c c s b fl takes puts true (.nil):=by
 refine zOk func120 rfl ntmps120 results120 rfl ?_
 intro wb St0 X fx
 repeat' first|apply en_n|apply zAG|apply zAA|apply zAD|apply w0|exact zCY rfl rfl|(refine zBr (cs:=[i64 s.of,i64 (s.height-takes+puts),zBW s.tries,bl false]) zGq zEv (PD_d rfl rfl (PD_d rfl rfl (PD_d rfl rfl zCi))) rfl)|refine zAj rfl rfl rfl zEw rfl rfl rfl rfl ?_|(apply zDv (hd:=rfl) (hro:=rfl);(with_reducible exact zEv))|apply ay (hd:=rfl)|exact zAF rfl|refine zBG rfl rfl ?_|refine zC2 rfl rfl ?_|exact zBS rfl|exact zAV rfl rfl|exact zQW rfl|exact zS1 rfl zCP|(apply zAC;exact rfl;(with_reducible first|exact zC7|exact zCA|exact zBv))|(apply zAE;exact rfl;(with_reducible first|exact zAP|exact zAt);exact rfl;exact rfl)|refine w1 rfl rfl ?_|(refine w0' ?_)|refine zAJ rfl ?_|apply zAK|apply zAR
 all_goals first|omega|skip
 refine zBV (α:=Unit) (fun _=>True) (fun _=>[(39,.d (i64 0)),(40,.d (i64 0))]) (fun _=>CA fx m (c)++[.bx (fx 4) none [.d (i64 s.of),.d (i64 s.height),.d (zBW s.tries),.d (bl b)],.bx (fx 5) none [.d (i64 fl)],.bx (fx 6) none [.ptr 0 0],.box [.d (i64 s.of),.d (i64 (s.height-takes+puts)),.d (zBW s.tries),.d (bl false)]]) (fun _=>0) () trivial ?_ ?_
 ·exact zAS (Le_all rfl) (zBF _) rfl rfl
 intro i hi
 have hc:¬(0:Int)<0:=by omega
 repeat' first|apply en_n|apply zAG|apply zAA|apply zAD|apply w0|exact zCY rfl rfl|apply ay (hd:=rfl)|refine zAJ rfl ?_|apply zBX|apply en_e|apply eb_e
 all_goals first|omega|skip
 all_goals exact zR1 (tl:=[.box [.d (i64 s.of),.d (i64 (s.height-takes+puts)),.d (zBW s.tries),.d (bl false)]]) rfl
end Go.Proofs.YtcagoomibpcdlaaGreatDoor
