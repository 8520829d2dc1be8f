/- Parts of the proof. -/
import Derived.Test.YtcagoomibpcdlaaGreatDoorMBL
set_option maxHeartbeats 16000000
namespace Go.Proofs.YtcagoomibpcdlaaGreatDoor
open _root_.Go.Proofs.Tryz
open Go.Sx Go.Vm
def valN(m:Img)(T:St): List Nn:=if T.fin=1/\(zFS m T.all (T.top 0)).length<=4000 then zFS m T.all (T.top 0)else[]
attribute [local irreducible] zAO Program.underlying Ylds zBE alex zB0 zBk awp zAg zB9 zB8 zAU zBj zA6 zDJ zBl zBn zBC zBq zBz zB7 zDQ zBm zBc zBe
theorem zaE{con:List UInt8->Bool}{m:Img}{A:Nat->Option VS}(hg:Go.Vm.Good con m A)(hi:ImgOk m)(words fuel:Nat)(hw:16<=words/\words<=1048576)(hfu:fuel<=100000)(hV:zAg prog 18 [zCm m] (i64 0))(T:St)(hT0:T=runS shw m fuel (Go.Vm.start words)):
  zAg prog 10 [zCm m,i64 (words:Int),i64 (fuel:Int)] (.tup [zRC T.fin (valN m T) T.num T.out T.steps,i64 0]):=by
 have hN:=zWC words hw
 have hNum:=zPO [] [] 0
 have hn1:¬(fuel:Int)<0:=by omega
 have hn2:¬(fuel:Int)>100000:=by omega
 refine zDU func10 rfl ntmps10 results10 rfl ?_
 intro wb St0
 unfold zCm at *
 repeat' first|(apply zSu;(with_reducible exact zTZ);(with_reducible exact zTS);exact zS8 rfl (zS8 rfl zaI);exact rfl;exact rfl;exact rfl;exact rfl)|apply en_n|apply zAG|apply zAA|apply zAD|apply w0|exact zKG rfl|exact zV8 rfl|exact zV7 rfl|exact zCY rfl rfl|exact zDx rfl rfl|exact zGi rfl rfl|exact zAL rfl|(refine zAd zD0 hV (CoLA rfl))|(refine zPH [] zHY hN (SArgs_all rfl) rfl rfl (by decide) rfl rfl rfl rfl rfl rfl ?_)|(refine zAd zGF hNum (CoLA rfl))|refine aBox (hd:=rfl) (hro:=rfl) rfl rfl ?_|(apply zDv (hd:=rfl) (hro:=rfl);(with_reducible exact zFd))|apply ay (hd:=rfl)|exact zAF rfl|exact zAB rfl|exact zAV rfl rfl|exact zAH rfl|exact zFc rfl|(apply zAC;exact rfl;(with_reducible first|exact zC9|exact zAc))|exact zBA rfl zCt rfl rfl rfl|refine w1 rfl rfl ?_|(refine w0' ?_)|refine zAj rfl rfl rfl zBU rfl rfl rfl rfl ?_|refine zAJ rfl ?_|apply zAK|apply zAR
 all_goals first|omega|skip
 refine zFa 6 3 true 58 1 rfl rfl rfl ?_
 refine zFa 6 7 true 60 3 rfl rfl rfl ?_
 refine zFa 6 8 true 114 5 rfl rfl rfl ?_
 refine zFa 6 12 true 9 1 rfl rfl rfl ?_
 refine zBV (α:=St×List Nat×Nat) (fun x=>Run con m A (words:Int) fuel T shw x.1 x.2.2) (fun _=>[(2,.d (i64 (fuel:Int))),(6,.ptr 1 0),(11,.ptr 6 0)]) (fun x=>RA sb0 m (rawS x.1 x.2.1)) (fun x=>fuel-x.2.2) (Go.Vm.start words,[],0) ?_ ?_ ?_
 ·rw[hT0];exact Run.begin_ hg hi (by omega)
 ·exact zAS (Le_all rfl) (zIC rfl (zHC rfl zPM (zHC rfl zPM (zAN rfl rfl (zAN rfl rfl (zAN rfl rfl (zHC rfl zPM (zAN rfl rfl (zAN rfl rfl (zAN rfl rfl (zAN rfl rfl zAs))))))))))) rfl (zIB m _)
 rintro⟨s,oth,k⟩ hR
 dsimp only at hR ⊢
 have hst:=hR.steps
 have hkl:=hR.le
 by_cases h0:s.fin=0
 ·by_cases hk:k<fuel
  ·obtain⟨hm,hn⟩:=hR.next h0 hk
   obtain⟨oth',hS⟩:=zYw hm ⟨by show 0<=s.words;rw[hR.words];omega,by show s.words<=_;rw[hR.words];omega,by have:=hR.tr;show s.tries.length<=_;omega,by have:=hR.out;show s.out.length<=_;omega⟩ oth
   generalize Go.Vm.step shw m { s with steps:=s.steps+1 }=s2 at hn hS
   have hS':zAU prog 22 [.ptr 0 0] (MX m { rawS s oth with steps:=(rawS s oth).steps+1 }) .top (MX m (rawS s2 oth')):=hS
   have g0:(rawS s oth).fin=0:=h0
   have g1':(rawS s oth).steps=k:=hst
   clear hS
   generalize rawS s oth=r at *
   have hkk:¬r.steps=(fuel:Int):=by omega
   repeat' first|(refine zFZ (id:=15) (s:=[(2,.d (i64 (fuel:Int))),(6,.ptr 1 0),(11,.ptr 6 0)]) (h:=RA sb0 m { r with steps:=r.steps+1 }) (zAS (Le_all rfl) (zBF _) rfl (zIB m _)) ?_)|apply en_n|apply zAG|apply zAA|apply zAD|apply w0|exact zAi rfl rfl|exact zAn rfl rfl|exact zAL rfl|(refine aVMx rfl zP8 hS' (SArgs_all rfl) rfl rfl ?_)|apply ay (hd:=rfl)|exact zAF rfl|refine zBG rfl rfl ?_|exact zAH rfl|(apply zAC;exact rfl;(with_reducible first|exact zC5|exact zHf|exact zCB))|(apply zAE;exact rfl;(with_reducible first|exact zDf|exact zAP);exact rfl;exact rfl)|(refine w0' ?_)|refine zAj rfl rfl rfl zAP rfl rfl rfl rfl ?_|refine zAI rfl ?_|refine zAJ rfl ?_|apply zAK|apply zAR|apply eb_n
   all_goals first|omega|skip
   exact⟨(s2,oth',k+1),hn,by dsimp only;omega,zAS (Le_all rfl) (zBF _) rfl (zIB m _)⟩
  ·have hTs:=hR.out_ h0 hk
   have hTres:Res con m A T:=by rw[hTs];exact .stop hR.res.lay (by decide) (by decide)
   have hTw:T.words=words:=by rw[hTs];exact hR.words
   have hTstk:T.stack.length<=1048576:=by rw[hTs];have:=hR.stk;show s.stack.length<=_;omega
   have hSt:=zEx m (rawS s oth) 3
   have hrw:{ rawS s oth with fin:=3 }=rawS T oth:=by rw[hTs];rfl
   rw[hrw]at hSt
   have g0:(rawS s oth).fin=0:=h0
   have hkk:(rawS s oth).steps=(fuel:Int):=by have:(rawS s oth).steps=s.steps:=rfl;omega
   clear hR hTs hrw hst
   generalize rawS s oth=r0 at *
   repeat' first|(refine zLx (id:=16) ?_)|apply en_n|apply zAG|apply zAA|apply zAD|apply w0|exact zAi rfl rfl|exact zAL rfl|(refine aVMx rfl zDL hSt (SArgs_all rfl) rfl rfl ?_)|apply ay (hd:=rfl)|exact zAF rfl|exact zAH rfl|(apply zAC;exact rfl;(with_reducible first|exact zC5|exact zHf|exact zCB))|(apply zAE;exact rfl;(with_reducible first|exact zDf|exact zAP);exact rfl;exact rfl)|refine zAI rfl ?_|apply zAK|apply zAR|apply zBX|apply en_e|apply eb_e|refine eb_o rfl ?_
   all_goals first|omega|skip
   have hTl:T.stack.length<=1048576:=hTstk
   by_cases hf1:T.fin=1
   ·have hne:=hTres.val hf1
    have hpos:0<T.stack.length:=qBe.2 hne
    have hv0:Val T (T.top 0):=hTres.lay.stack (zEm hpos)
    have hT:=zB4 m (rawS T oth) (k:=0) (by rw[zBR];exact hpos) (zFH T oth hpos) (by rw[zBR];exact hTl)
    have hlen:=zLD m T.all (rkR (T.top 0)+1) [] (T.top 0) (qAV _)
    have hSh0:=zQ6 hTres.lay hi (by rw[hTw];omega) oth (rkR (T.top 0)+1) [] (T.top 0) (Nat.lt_succ_self _) hv0 (qAV _)
    change (zFS m T.all (T.top 0)).length<=4001 at hlen
    change zIA m (rawS T oth) [] (zFS m T.all (T.top 0)) _ at hSh0
    have hvl:valN m T=if(zFS m T.all (T.top 0)).length<=4000 then zFS m T.all (T.top 0)else[]:=by unfold valN;by_cases h:(zFS m T.all (T.top 0)).length<=4000 <;> simp[h,hf1]
    generalize hL:zFS m T.all (T.top 0)=L at *
    have hSh:zAU prog 23 [.ptr 0 0,.nil,.d (w64 (wdN T.all T.ly (T.top 0)))] (MX m (rawS T oth)) (.buf 9 L.length) (MXr m (rawS T oth) (L.map nnD)):=zMP (k:=9) [.ptr 0 0] [.d (w64 (wdN T.all T.ly (T.top 0)))] rfl hSh0
    have e1:(rawS T oth).fin=T.fin:=rfl
    have e2:(rawS T oth).num=T.num:=rfl
    have e3:(rawS T oth).out=T.out:=rfl
    have e4:(rawS T oth).steps=T.steps:=rfl
    generalize rawS T oth=r at *
    have hg1:r.fin=1:=e1.trans hf1
    rcases qAQ 4000 L.length with hbig|hfit
    ·have hq:¬(L.length:Int)<=4000:=by omega
     rw[if_neg (by omega)]at hvl
     refine Stop.go ?_
     refine zBT (s:=[(6,.ptr 1 0),(11,.ptr 6 0)]) (h:=RA sb0 m r) (zAS (Le_all rfl) (zBF _) rfl (zIB m r)) ?_
     repeat' first|(refine zLx (id:=20) ?_)|apply en_n|apply zAG|apply zAA|apply zAD|apply w0|exact zM4 rfl rfl|exact zAi rfl rfl|exact zAL rfl|(refine zAX idsR [] rfl rfl zAw (hT) rfl (SArgs_all rfl) rfl (by decide) rfl rfl rfl rfl)|(refine aVMs zFv hSh (SArgs_all rfl) rfl rfl ?_)|apply ay (hd:=rfl)|exact zAz rfl|exact zAp rfl|exact zA3 rfl zEJ|exact zAH rfl|(apply zAC;exact rfl;(with_reducible first|exact zC5|exact zCB))|exact zAE rfl zDf rfl rfl|refine zAI rfl ?_|refine zAJ rfl ?_|apply zAR
     all_goals refine Stop.go ?_
     refine zCo 10 (mu:=true) rfl rfl ?_
     refine zEK 6 12 (d:=.slice (r.out.map str)) rfl rfl (zF3 rfl (qAC _).symm) ?_
     skip
     repeat' first|apply en_n|apply zAG|apply zAA|apply zAD|apply w0|(refine zBQ ?_)|(refine zBp ?_)|(refine RV_c rfl rfl zCd rfl rfl ?_ ?_)|(refine RV_d rfl ?_ ?_)|exact zCh|exact zAL rfl|exact zBA rfl zCd rfl rfl rfl|refine zAj rfl rfl rfl zCd rfl rfl rfl rfl ?_|apply ay (hd:=rfl)|exact zAB rfl|exact zAH rfl|exact zAC rfl zCB|(refine w0' ?_)|apply zAQ
     ·rfl
     ·refine congrArg D.agg ?_
      rw[hvl,<-e1,<-e2,<-e3,<-e4]
      all_goals rfl
    ·have hq:(L.length:Int)<=4000:=by omega
     rw[if_pos hfit]at hvl
     refine Stop.go ?_
     refine zBT (s:=[(6,.ptr 1 0),(11,.ptr 6 0)]) (h:=RA sb0 m r) (zAS (Le_all rfl) (zBF _) rfl (zIB m r)) ?_
     repeat' first|(refine zLx (id:=20) ?_)|apply en_n|apply zAG|apply zAA|apply zAD|apply w0|exact zM3 rfl rfl|exact zAi rfl rfl|exact zAL rfl|(refine zAX idsR [] rfl rfl zAw (hT) rfl (SArgs_all rfl) rfl (by decide) rfl rfl rfl rfl)|(refine aVMs zFv hSh (SArgs_all rfl) rfl rfl ?_)|apply ay (hd:=rfl)|exact zAz rfl|exact zAp rfl|exact zA3 rfl zEJ|exact zAH rfl|(apply zAC;exact rfl;(with_reducible first|exact zC5|exact zHg|exact zCB))|exact zAE rfl zDf rfl rfl|(refine w0' ?_)|refine zAj rfl rfl rfl zIt rfl rfl rfl rfl ?_|refine zAI rfl ?_
     all_goals refine Stop.go ?_
     refine zCo 11 (mu:=true) rfl rfl ?_
     refine zCo 10 (mu:=true) rfl rfl ?_
     refine zEK 6 10 (d:=.slice (L.map nnD)) rfl rfl (zF3 rfl (qAC _).symm) ?_
     refine zEK 6 12 (d:=.slice (r.out.map str)) rfl rfl (zF3 rfl (qAC _).symm) ?_
     skip
     repeat' first|apply en_n|apply zAG|apply zAA|apply zAD|apply w0|(refine zBQ ?_)|(refine zBp ?_)|(refine RV_c rfl rfl zCd rfl rfl ?_ ?_)|(refine RV_d rfl ?_ ?_)|exact zCh|exact zAL rfl|exact zBA rfl zCd rfl rfl rfl|refine zAj rfl rfl rfl zCd rfl rfl rfl rfl ?_|apply ay (hd:=rfl)|exact zAB rfl|exact zAH rfl|exact zAC rfl zCB|(refine w0' ?_)|apply zAQ
     ·rfl
     ·refine congrArg D.agg ?_
      rw[hvl,<-e1,<-e2,<-e3,<-e4]
      all_goals rfl
   ·have hvl:valN m T=[]:=by unfold valN;rw[if_neg (fun c=>hf1 c.1)]
    have e1:(rawS T oth).fin=T.fin:=rfl
    have e2:(rawS T oth).num=T.num:=rfl
    have e3:(rawS T oth).out=T.out:=rfl
    have e4:(rawS T oth).steps=T.steps:=rfl
    generalize rawS T oth=r at *
    have hg1:¬r.fin=1:=fun c=>hf1 (e1.symm.trans c)
    refine Stop.go ?_
    refine zBT (s:=[(6,.ptr 1 0),(11,.ptr 6 0)]) (h:=RA sb0 m r) (zAS (Le_all rfl) (zBF _) rfl (zIB m r)) ?_
    repeat' first|(refine zLx (id:=20) ?_)|apply en_n|apply zAA|apply zAD|apply w0|exact zAn rfl rfl|exact zAL rfl|apply ay (hd:=rfl)|exact zAH rfl|(apply zAC;exact rfl;(with_reducible first|exact zC5|exact zCB))|exact zAE rfl zDf rfl rfl|refine zAJ rfl ?_|apply zAR
    all_goals refine Stop.go ?_
    refine zCo 10 (mu:=true) rfl rfl ?_
    refine zEK 6 12 (d:=.slice (r.out.map str)) rfl rfl (zF3 rfl (qAC _).symm) ?_
    skip
    repeat' first|apply en_n|apply zAG|apply zAA|apply zAD|apply w0|(refine zBQ ?_)|(refine zBp ?_)|(refine RV_c rfl rfl zCd rfl rfl ?_ ?_)|(refine RV_d rfl ?_ ?_)|exact zCh|exact zAL rfl|exact zBA rfl zCd rfl rfl rfl|refine zAj rfl rfl rfl zCd rfl rfl rfl rfl ?_|apply ay (hd:=rfl)|exact zAB rfl|exact zAH rfl|exact zAC rfl zCB|(refine w0' ?_)|apply zAQ
    ·rfl
    ·refine congrArg D.agg ?_
     rw[hvl,<-e1,<-e2,<-e3,<-e4]
     all_goals rfl
 ·have hTs:=hR.done h0
  have hTres:Res con m A T:=by rw[hTs];exact hR.res
  have hTw:T.words=words:=by rw[hTs];exact hR.words
  have hTstk:T.stack.length<=1048576:=by rw[hTs];have:=hR.stk;omega
  rw[<-hTs]at h0 ⊢
  clear hR hTs hst
  have g0:¬(rawS T oth).fin=0:=h0
  repeat' first|(refine zLx (id:=16) ?_)|apply en_n|apply zAG|apply zAA|apply zAD|apply w0|exact zAn rfl rfl|exact zAL rfl|apply ay (hd:=rfl)|exact zAH rfl|(apply zAC;exact rfl;(with_reducible first|exact zC5|exact zCB))|exact zAE rfl zDf rfl rfl|refine zAJ rfl ?_|apply zBX|apply en_e|apply eb_e
  all_goals first|omega|skip
  have hTl:T.stack.length<=1048576:=hTstk
  by_cases hf1:T.fin=1
  ·have hne:=hTres.val hf1
   have hpos:0<T.stack.length:=qBe.2 hne
   have hv0:Val T (T.top 0):=hTres.lay.stack (zEm hpos)
   have hT:=zB4 m (rawS T oth) (k:=0) (by rw[zBR];exact hpos) (zFH T oth hpos) (by rw[zBR];exact hTl)
   have hlen:=zLD m T.all (rkR (T.top 0)+1) [] (T.top 0) (qAV _)
   have hSh0:=zQ6 hTres.lay hi (by rw[hTw];omega) oth (rkR (T.top 0)+1) [] (T.top 0) (Nat.lt_succ_self _) hv0 (qAV _)
   change (zFS m T.all (T.top 0)).length<=4001 at hlen
   change zIA m (rawS T oth) [] (zFS m T.all (T.top 0)) _ at hSh0
   have hvl:valN m T=if(zFS m T.all (T.top 0)).length<=4000 then zFS m T.all (T.top 0)else[]:=by unfold valN;by_cases h:(zFS m T.all (T.top 0)).length<=4000 <;> simp[h,hf1]
   generalize hL:zFS m T.all (T.top 0)=L at *
   have hSh:zAU prog 23 [.ptr 0 0,.nil,.d (w64 (wdN T.all T.ly (T.top 0)))] (MX m (rawS T oth)) (.buf 9 L.length) (MXr m (rawS T oth) (L.map nnD)):=zMP (k:=9) [.ptr 0 0] [.d (w64 (wdN T.all T.ly (T.top 0)))] rfl hSh0
   have e1:(rawS T oth).fin=T.fin:=rfl
   have e2:(rawS T oth).num=T.num:=rfl
   have e3:(rawS T oth).out=T.out:=rfl
   have e4:(rawS T oth).steps=T.steps:=rfl
   generalize rawS T oth=r at *
   have hg1:r.fin=1:=e1.trans hf1
   rcases qAQ 4000 L.length with hbig|hfit
   ·have hq:¬(L.length:Int)<=4000:=by omega
    rw[if_neg (by omega)]at hvl
    refine Stop.go ?_
    refine zBT (s:=[(6,.ptr 1 0),(11,.ptr 6 0)]) (h:=RA sb0 m r) (zAS (Le_all rfl) (zBF _) rfl (zIB m r)) ?_
    repeat' first|(refine zLx (id:=20) ?_)|apply en_n|apply zAG|apply zAA|apply zAD|apply w0|exact zM4 rfl rfl|exact zAi rfl rfl|exact zAL rfl|(refine zAX idsR [] rfl rfl zAw (hT) rfl (SArgs_all rfl) rfl (by decide) rfl rfl rfl rfl)|(refine aVMs zFv hSh (SArgs_all rfl) rfl rfl ?_)|apply ay (hd:=rfl)|exact zAz rfl|exact zAp rfl|exact zA3 rfl zEJ|exact zAH rfl|(apply zAC;exact rfl;(with_reducible first|exact zC5|exact zCB))|exact zAE rfl zDf rfl rfl|refine zAI rfl ?_|refine zAJ rfl ?_|apply zAR
    all_goals refine Stop.go ?_
    refine zCo 10 (mu:=true) rfl rfl ?_
    refine zEK 6 12 (d:=.slice (r.out.map str)) rfl rfl (zF3 rfl (qAC _).symm) ?_
    skip
    repeat' first|apply en_n|apply zAG|apply zAA|apply zAD|apply w0|(refine zBQ ?_)|(refine zBp ?_)|(refine RV_c rfl rfl zCd rfl rfl ?_ ?_)|(refine RV_d rfl ?_ ?_)|exact zCh|exact zAL rfl|exact zBA rfl zCd rfl rfl rfl|refine zAj rfl rfl rfl zCd rfl rfl rfl rfl ?_|apply ay (hd:=rfl)|exact zAB rfl|exact zAH rfl|exact zAC rfl zCB|(refine w0' ?_)|apply zAQ
    ·rfl
    ·refine congrArg D.agg ?_
     rw[hvl,<-e1,<-e2,<-e3,<-e4]
     all_goals rfl
   ·have hq:(L.length:Int)<=4000:=by omega
    rw[if_pos hfit]at hvl
    refine Stop.go ?_
    refine zBT (s:=[(6,.ptr 1 0),(11,.ptr 6 0)]) (h:=RA sb0 m r) (zAS (Le_all rfl) (zBF _) rfl (zIB m r)) ?_
    repeat' first|(refine zLx (id:=20) ?_)|apply en_n|apply zAG|apply zAA|apply zAD|apply w0|exact zM3 rfl rfl|exact zAi rfl rfl|exact zAL rfl|(refine zAX idsR [] rfl rfl zAw (hT) rfl (SArgs_all rfl) rfl (by decide) rfl rfl rfl rfl)|(refine aVMs zFv hSh (SArgs_all rfl) rfl rfl ?_)|apply ay (hd:=rfl)|exact zAz rfl|exact zAp rfl|exact zA3 rfl zEJ|exact zAH rfl|(apply zAC;exact rfl;(with_reducible first|exact zC5|exact zHg|exact zCB))|exact zAE rfl zDf rfl rfl|(refine w0' ?_)|refine zAj rfl rfl rfl zIt rfl rfl rfl rfl ?_|refine zAI rfl ?_
    all_goals refine Stop.go ?_
    refine zCo 11 (mu:=true) rfl rfl ?_
    refine zCo 10 (mu:=true) rfl rfl ?_
    refine zEK 6 10 (d:=.slice (L.map nnD)) rfl rfl (zF3 rfl (qAC _).symm) ?_
    refine zEK 6 12 (d:=.slice (r.out.map str)) rfl rfl (zF3 rfl (qAC _).symm) ?_
    skip
    repeat' first|apply en_n|apply zAG|apply zAA|apply zAD|apply w0|(refine zBQ ?_)|(refine zBp ?_)|(refine RV_c rfl rfl zCd rfl rfl ?_ ?_)|(refine RV_d rfl ?_ ?_)|exact zCh|exact zAL rfl|exact zBA rfl zCd rfl rfl rfl|refine zAj rfl rfl rfl zCd rfl rfl rfl rfl ?_|apply ay (hd:=rfl)|exact zAB rfl|exact zAH rfl|exact zAC rfl zCB|(refine w0' ?_)|apply zAQ
    ·rfl
    ·refine congrArg D.agg ?_
     rw[hvl,<-e1,<-e2,<-e3,<-e4]
     all_goals rfl
  ·have hvl:valN m T=[]:=by unfold valN;rw[if_neg (fun c=>hf1 c.1)]
   have e1:(rawS T oth).fin=T.fin:=rfl
   have e2:(rawS T oth).num=T.num:=rfl
   have e3:(rawS T oth).out=T.out:=rfl
   have e4:(rawS T oth).steps=T.steps:=rfl
   generalize rawS T oth=r at *
   have hg1:¬r.fin=1:=fun c=>hf1 (e1.symm.trans c)
   refine Stop.go ?_
   refine zBT (s:=[(6,.ptr 1 0),(11,.ptr 6 0)]) (h:=RA sb0 m r) (zAS (Le_all rfl) (zBF _) rfl (zIB m r)) ?_
   repeat' first|(refine zLx (id:=20) ?_)|apply en_n|apply zAA|apply zAD|apply w0|exact zAn rfl rfl|exact zAL rfl|apply ay (hd:=rfl)|exact zAH rfl|(apply zAC;exact rfl;(with_reducible first|exact zC5|exact zCB))|exact zAE rfl zDf rfl rfl|refine zAJ rfl ?_|apply zAR
   all_goals refine Stop.go ?_
   refine zCo 10 (mu:=true) rfl rfl ?_
   refine zEK 6 12 (d:=.slice (r.out.map str)) rfl rfl (zF3 rfl (qAC _).symm) ?_
   skip
   repeat' first|apply en_n|apply zAG|apply zAA|apply zAD|apply w0|(refine zBQ ?_)|(refine zBp ?_)|(refine RV_c rfl rfl zCd rfl rfl ?_ ?_)|(refine RV_d rfl ?_ ?_)|exact zCh|exact zAL rfl|exact zBA rfl zCd rfl rfl rfl|refine zAj rfl rfl rfl zCd rfl rfl rfl rfl ?_|apply ay (hd:=rfl)|exact zAB rfl|exact zAH rfl|exact zAC rfl zCB|(refine w0' ?_)|apply zAQ
   ·rfl
   ·refine congrArg D.agg ?_
    rw[hvl,<-e1,<-e2,<-e3,<-e4]
    all_goals rfl
end Go.Proofs.YtcagoomibpcdlaaGreatDoor
