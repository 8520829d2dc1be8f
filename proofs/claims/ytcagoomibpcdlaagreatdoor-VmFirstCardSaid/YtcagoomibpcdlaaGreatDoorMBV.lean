/- Parts of the proof. -/
import Derived.Test.YtcagoomibpcdlaaGreatDoorMBH
set_option maxHeartbeats 16000000
namespace Go.Proofs.YtcagoomibpcdlaaGreatDoor
open _root_.Go.Proofs.Tryz
open Go.Sx Go.Vm
def valN(m:Img)(T:St): List Nn:=if T.fin=1/\(zE8 m T.all (T.top 0)).length<=4000 then zE8 m T.all (T.top 0)else[]
attribute [local irreducible] zAN Program.underlying Ylds zA9 alex zB3 zBf awp zAi zCC zCB zAU zBl zAz zDt zBq zBj zBB zBr zB2 zB8 zD7 zBi zBd zBg
theorem zZP{con:List UInt8->Bool}{m:Img}{A:Nat->Option VS}(hg:Go.Vm.Good con m A)(hi:ImgOk m)(words fuel:Nat)(hw:16<=words/\words<=1048576)(hfu:fuel<=100000)(hV:zAi prog 18 [zDH m] (i64 0))(T:St)(hT0:T=runS shw m fuel (Go.Vm.start words)):
  zAi prog 10 [zDH m,i64 (words:Int),i64 (fuel:Int)] (.tup [zIU T.fin (valN m T) T.num T.out T.steps,i64 0]):=by
 have hN:=zVX words hw
 have hNum:=zOq [] [] 0
 have hn1:¬(fuel:Int)<0:=by omega
 have hn2:¬(fuel:Int)>100000:=by omega
 refine zED func10 rfl ntmps10 results10 rfl ?_
 intro wb St0
 unfold zDH at *
 repeat' first|(apply zR6;(with_reducible exact zSo);(with_reducible exact zSh);exact zSN rfl (zSN rfl zZS);exact rfl;exact rfl;exact rfl;exact rfl)|apply en_n|apply zAH|apply zAA|apply zAD|apply w0|exact zJm rfl|exact zVS rfl|exact zVR rfl|exact zCm rfl rfl|exact zDs rfl rfl|exact zFI rfl rfl|exact zAK rfl|(refine zAb zDv hV (zAY rfl zAM))|(refine zOg [] zHM hN (SArgs_all rfl) rfl rfl (by decide) rfl rfl rfl rfl rfl rfl ?_)|(refine zAb zGA hNum (zAY rfl zAM))|(apply aBox (hd:=rfl) (hro:=rfl);exact rfl;exact rfl)|(apply zDI (hd:=rfl) (hro:=rfl);(with_reducible exact zD8))|apply ay (hd:=rfl)|exact zAF rfl|exact zAB rfl|exact zAX rfl rfl|exact zAG rfl|exact zFZ rfl|(apply zAC;exact rfl;(with_reducible first|exact zC7|exact zAZ))|exact zA4 rfl zCo rfl rfl rfl|refine w1 rfl rfl ?_|(refine w0' ?_)|refine zAh rfl rfl rfl zBO rfl rfl rfl rfl ?_|refine zAJ rfl ?_|apply zAL|apply zAS
 all_goals first|omega|skip
 refine zFW 6 3 true 58 1 rfl rfl rfl ?_
 refine zFW 6 7 true 60 3 rfl rfl rfl ?_
 refine zFW 6 8 true 114 5 rfl rfl rfl ?_
 refine zFW 6 12 true 9 1 rfl rfl rfl ?_
 refine zBW (α:=St×List Nat×Nat) (fun x=>Run con m A (words:Int) fuel T shw x.1 x.2.2) (fun _=>[(2,.d (i64 (fuel:Int))),(6,.ptr 1 0),(11,.ptr 6 0)]) (fun x=>RA sb0 m (rawS x.1 x.2.1)) (fun x=>fuel-x.2.2) (Go.Vm.start words,[],0) ?_ ?_ ?_
 ·rw[hT0];exact Run.begin_ hg hi (by omega)
 ·exact zAT (Le_all rfl) (zHx rfl (zII rfl zOn (zII rfl zOn (zAO rfl rfl (zAO rfl rfl (zAO rfl rfl (zII rfl zOn (zAO rfl rfl (zAO rfl rfl (zAO rfl rfl (zAO rfl rfl zAt))))))))))) rfl (zHw m _)
 rintro⟨s,oth,k⟩ hR
 dsimp only at hR ⊢
 have hst:=hR.steps
 have hkl:=hR.le
 by_cases h0:s.fin=0
 ·by_cases hk:k<fuel
  ·obtain⟨hm,hn⟩:=hR.next h0 hk
   obtain⟨oth',hS⟩:=zYF hm ⟨by show 0<=s.words;rw[hR.words];omega,by show s.words<=_;rw[hR.words];omega,by have:=hR.tr;show s.tries.length<=_;omega,by have:=hR.out;show s.out.length<=_;omega⟩ oth
   generalize Go.Vm.step shw m { s with steps:=s.steps+1 }=s2 at hn hS
   have hS':zAU prog 22 [.ptr 0 0] (MX m { rawS s oth with steps:=(rawS s oth).steps+1 }) .top (MX m (rawS s2 oth')):=hS
   have g0:(rawS s oth).fin=0:=h0
   have g1':(rawS s oth).steps=k:=hst
   clear hS
   generalize rawS s oth=r at *
   have hkk:¬r.steps=(fuel:Int):=by omega
   repeat' first|(refine zFV (id:=15) (s:=[(2,.d (i64 (fuel:Int))),(6,.ptr 1 0),(11,.ptr 6 0)]) (h:=RA sb0 m { r with steps:=r.steps+1 }) (zAT (Le_all rfl) (zB5 _) rfl (zHw m _)) ?_)|apply en_n|apply zAH|apply zAA|apply zAD|apply w0|exact zAk rfl rfl|exact zAm rfl rfl|exact zAK rfl|(refine aVMx rfl zPV hS' (SArgs_all rfl) rfl rfl ?_)|apply ay (hd:=rfl)|exact zAF rfl|refine zBE rfl rfl ?_|exact zAG rfl|(apply zAC;exact rfl;(with_reducible first|exact zCa|exact zE7|exact zB1))|(apply zAE;exact rfl;(with_reducible first|exact zCr|exact zAP);exact rfl;exact rfl)|(refine w0' ?_)|refine zAh rfl rfl rfl zAP rfl rfl rfl rfl ?_|refine zAI rfl ?_|refine zAJ rfl ?_|apply zAL|apply zAS|apply eb_n
   all_goals first|omega|skip
   exact⟨(s2,oth',k+1),hn,by dsimp only;omega,zAT (Le_all rfl) (zB5 _) rfl (zHw m _)⟩
  ·have hTs:=hR.out_ h0 hk
   have hTres:Res con m A T:=by rw[hTs];exact .stop hR.res.lay (by decide) (by decide)
   have hTw:T.words=words:=by rw[hTs];exact hR.words
   have hTstk:T.stack.length<=1048576:=by rw[hTs];have:=hR.stk;show s.stack.length<=_;omega
   have hSt:=zEq m (rawS s oth) 3
   have hrw:{ rawS s oth with fin:=3 }=rawS T oth:=by rw[hTs];rfl
   rw[hrw]at hSt
   have g0:(rawS s oth).fin=0:=h0
   have hkk:(rawS s oth).steps=(fuel:Int):=by have:(rawS s oth).steps=s.steps:=rfl;omega
   clear hR hTs hrw hst
   generalize rawS s oth=r0 at *
   repeat' first|(refine zLQ (id:=16) ?_)|apply en_n|apply zAH|apply zAA|apply zAD|apply w0|exact zAk rfl rfl|exact zAK rfl|(refine aVMx rfl zDK hSt (SArgs_all rfl) rfl rfl ?_)|apply ay (hd:=rfl)|exact zAF rfl|exact zAG rfl|(apply zAC;exact rfl;(with_reducible first|exact zCa|exact zE7|exact zB1))|(apply zAE;exact rfl;(with_reducible first|exact zCr|exact zAP);exact rfl;exact rfl)|refine zAI rfl ?_|apply zAL|apply zAS|apply zBc|apply en_e|apply eb_e|refine eb_o rfl ?_
   all_goals first|omega|skip
   have hTl:T.stack.length<=1048576:=hTstk
   by_cases hf1:T.fin=1
   ·have hne:=hTres.val hf1
    have hpos:0<T.stack.length:=qBi.2 hne
    have hv0:Val T (T.top 0):=hTres.lay.stack (zEe hpos)
    have hT:=zBt m (rawS T oth) (k:=0) (by rw[zBM];exact hpos) (zFB T oth hpos) (by rw[zBM];exact hTl)
    have hlen:=zKe m T.all (rkR (T.top 0)+1) [] (T.top 0) (qAX _)
    have hSh0:=zQQ hTres.lay hi (by rw[hTw];omega) oth (rkR (T.top 0)+1) [] (T.top 0) (Nat.lt_succ_self _) hv0 (qAX _)
    change (zE8 m T.all (T.top 0)).length<=4001 at hlen
    change zHv m (rawS T oth) [] (zE8 m T.all (T.top 0)) _ at hSh0
    have hvl:valN m T=if(zE8 m T.all (T.top 0)).length<=4000 then zE8 m T.all (T.top 0)else[]:=by unfold valN;by_cases h:(zE8 m T.all (T.top 0)).length<=4000 <;> simp[h,hf1]
    generalize hL:zE8 m T.all (T.top 0)=L at *
    have hSh:zAU prog 23 [.ptr 0 0,.nil,.d (w64 (wdN T.all T.ly (T.top 0)))] (MX m (rawS T oth)) (.buf 9 L.length) (MXr m (rawS T oth) (L.map nnD)):=zLp (k:=9) [.ptr 0 0] [.d (w64 (wdN T.all T.ly (T.top 0)))] rfl hSh0
    have e1:(rawS T oth).fin=T.fin:=rfl
    have e2:(rawS T oth).num=T.num:=rfl
    have e3:(rawS T oth).out=T.out:=rfl
    have e4:(rawS T oth).steps=T.steps:=rfl
    generalize rawS T oth=r at *
    have hg1:r.fin=1:=e1.trans hf1
    rcases qAR 4000 L.length with hbig|hfit
    ·have hq:¬(L.length:Int)<=4000:=by omega
     rw[if_neg (by omega)]at hvl
     refine Stop.go ?_
     refine zBN (s:=[(6,.ptr 1 0),(11,.ptr 6 0)]) (h:=RA sb0 m r) (zAT (Le_all rfl) (zB5 _) rfl (zHw m r)) ?_
     repeat' first|(refine zLQ (id:=20) ?_)|apply en_n|apply zAH|apply zAA|apply zAD|apply w0|exact zMV rfl rfl|exact zAk rfl rfl|exact zAK rfl|(refine zAW idsR [] rfl rfl zAr (hT) rfl (SArgs_all rfl) rfl (by decide) rfl rfl rfl rfl)|(refine aVMs zFp hSh (SArgs_all rfl) rfl rfl ?_)|apply ay (hd:=rfl)|exact zBP rfl|exact zAy rfl|exact zA5 rfl zDO|exact zAG rfl|(apply zAC;exact rfl;(with_reducible first|exact zCa|exact zB1))|exact zAE rfl zCr rfl rfl|refine zAI rfl ?_|refine zAJ rfl ?_|apply zAS
     all_goals refine Stop.go ?_
     refine zCx 10 (mu:=true) rfl rfl ?_
     refine zEc 6 12 (d:=.slice (r.out.map str)) rfl rfl (zGJ rfl (qAC _).symm) ?_
     skip
     repeat' first|apply en_n|apply zAH|apply zAA|apply zAD|apply w0|(refine zBu ?_)|(refine zCJ ?_)|(refine RV_c rfl rfl zCE rfl rfl ?_ ?_)|(refine RV_d rfl ?_ ?_)|exact zDC|exact zAK rfl|exact zA4 rfl zCE rfl rfl rfl|refine zAh rfl rfl rfl zCE rfl rfl rfl rfl ?_|apply ay (hd:=rfl)|exact zAB rfl|exact zAG rfl|exact zAC rfl zB1|(refine w0' ?_)|apply zAQ
     ·rfl
     ·refine congrArg D.agg ?_
      rw[hvl,<-e1,<-e2,<-e3,<-e4]
      all_goals rfl
    ·have hq:(L.length:Int)<=4000:=by omega
     rw[if_pos hfit]at hvl
     refine Stop.go ?_
     refine zBN (s:=[(6,.ptr 1 0),(11,.ptr 6 0)]) (h:=RA sb0 m r) (zAT (Le_all rfl) (zB5 _) rfl (zHw m r)) ?_
     repeat' first|(refine zLQ (id:=20) ?_)|apply en_n|apply zAH|apply zAA|apply zAD|apply w0|exact zOi rfl rfl|exact zAk rfl rfl|exact zAK rfl|(refine zAW idsR [] rfl rfl zAr (hT) rfl (SArgs_all rfl) rfl (by decide) rfl rfl rfl rfl)|(refine aVMs zFp hSh (SArgs_all rfl) rfl rfl ?_)|apply ay (hd:=rfl)|exact zBP rfl|exact zAy rfl|exact zA5 rfl zDO|exact zAG rfl|(apply zAC;exact rfl;(with_reducible first|exact zCa|exact zFi|exact zB1))|exact zAE rfl zCr rfl rfl|(refine w0' ?_)|refine zAh rfl rfl rfl zGn rfl rfl rfl rfl ?_|refine zAI rfl ?_
     all_goals refine Stop.go ?_
     refine zCx 11 (mu:=true) rfl rfl ?_
     refine zCx 10 (mu:=true) rfl rfl ?_
     refine zEc 6 10 (d:=.slice (L.map nnD)) rfl rfl (zGJ rfl (qAC _).symm) ?_
     refine zEc 6 12 (d:=.slice (r.out.map str)) rfl rfl (zGJ rfl (qAC _).symm) ?_
     skip
     repeat' first|apply en_n|apply zAH|apply zAA|apply zAD|apply w0|(refine zBu ?_)|(refine zCJ ?_)|(refine RV_c rfl rfl zCE rfl rfl ?_ ?_)|(refine RV_d rfl ?_ ?_)|exact zDC|exact zAK rfl|exact zA4 rfl zCE rfl rfl rfl|refine zAh rfl rfl rfl zCE rfl rfl rfl rfl ?_|apply ay (hd:=rfl)|exact zAB rfl|exact zAG rfl|exact zAC rfl zB1|(refine w0' ?_)|apply zAQ
     ·rfl
     ·refine congrArg D.agg ?_
      rw[hvl,<-e1,<-e2,<-e3,<-e4]
      all_goals rfl
   ·have hvl:valN m T=[]:=by unfold valN;rw[if_neg (fun c=>hf1 c.1)]
    have e1:(rawS T oth).fin=T.fin:=rfl
    have e2:(rawS T oth).num=T.num:=rfl
    have e3:(rawS T oth).out=T.out:=rfl
    have e4:(rawS T oth).steps=T.steps:=rfl
    generalize rawS T oth=r at *
    have hg1:¬r.fin=1:=fun c=>hf1 (e1.symm.trans c)
    refine Stop.go ?_
    refine zBN (s:=[(6,.ptr 1 0),(11,.ptr 6 0)]) (h:=RA sb0 m r) (zAT (Le_all rfl) (zB5 _) rfl (zHw m r)) ?_
    repeat' first|(refine zLQ (id:=20) ?_)|apply en_n|apply zAA|apply zAD|apply w0|exact zAm rfl rfl|exact zAK rfl|apply ay (hd:=rfl)|exact zAG rfl|(apply zAC;exact rfl;(with_reducible first|exact zCa|exact zB1))|exact zAE rfl zCr rfl rfl|refine zAJ rfl ?_|apply zAS
    all_goals refine Stop.go ?_
    refine zCx 10 (mu:=true) rfl rfl ?_
    refine zEc 6 12 (d:=.slice (r.out.map str)) rfl rfl (zGJ rfl (qAC _).symm) ?_
    skip
    repeat' first|apply en_n|apply zAH|apply zAA|apply zAD|apply w0|(refine zBu ?_)|(refine zCJ ?_)|(refine RV_c rfl rfl zCE rfl rfl ?_ ?_)|(refine RV_d rfl ?_ ?_)|exact zDC|exact zAK rfl|exact zA4 rfl zCE rfl rfl rfl|refine zAh rfl rfl rfl zCE rfl rfl rfl rfl ?_|apply ay (hd:=rfl)|exact zAB rfl|exact zAG rfl|exact zAC rfl zB1|(refine w0' ?_)|apply zAQ
    ·rfl
    ·refine congrArg D.agg ?_
     rw[hvl,<-e1,<-e2,<-e3,<-e4]
     all_goals rfl
 ·have hTs:=hR.done h0
  have hTres:Res con m A T:=by rw[hTs];exact hR.res
  have hTw:T.words=words:=by rw[hTs];exact hR.words
  have hTstk:T.stack.length<=1048576:=by rw[hTs];have:=hR.stk;omega
  rw[<-hTs]at h0 ⊢
  clear hR hTs hst
  have g0:¬(rawS T oth).fin=0:=h0
  repeat' first|(refine zLQ (id:=16) ?_)|apply en_n|apply zAH|apply zAA|apply zAD|apply w0|exact zAm rfl rfl|exact zAK rfl|apply ay (hd:=rfl)|exact zAG rfl|(apply zAC;exact rfl;(with_reducible first|exact zCa|exact zB1))|exact zAE rfl zCr rfl rfl|refine zAJ rfl ?_|apply zBc|apply en_e|apply eb_e
  all_goals first|omega|skip
  have hTl:T.stack.length<=1048576:=hTstk
  by_cases hf1:T.fin=1
  ·have hne:=hTres.val hf1
   have hpos:0<T.stack.length:=qBi.2 hne
   have hv0:Val T (T.top 0):=hTres.lay.stack (zEe hpos)
   have hT:=zBt m (rawS T oth) (k:=0) (by rw[zBM];exact hpos) (zFB T oth hpos) (by rw[zBM];exact hTl)
   have hlen:=zKe m T.all (rkR (T.top 0)+1) [] (T.top 0) (qAX _)
   have hSh0:=zQQ hTres.lay hi (by rw[hTw];omega) oth (rkR (T.top 0)+1) [] (T.top 0) (Nat.lt_succ_self _) hv0 (qAX _)
   change (zE8 m T.all (T.top 0)).length<=4001 at hlen
   change zHv m (rawS T oth) [] (zE8 m T.all (T.top 0)) _ at hSh0
   have hvl:valN m T=if(zE8 m T.all (T.top 0)).length<=4000 then zE8 m T.all (T.top 0)else[]:=by unfold valN;by_cases h:(zE8 m T.all (T.top 0)).length<=4000 <;> simp[h,hf1]
   generalize hL:zE8 m T.all (T.top 0)=L at *
   have hSh:zAU prog 23 [.ptr 0 0,.nil,.d (w64 (wdN T.all T.ly (T.top 0)))] (MX m (rawS T oth)) (.buf 9 L.length) (MXr m (rawS T oth) (L.map nnD)):=zLp (k:=9) [.ptr 0 0] [.d (w64 (wdN T.all T.ly (T.top 0)))] rfl hSh0
   have e1:(rawS T oth).fin=T.fin:=rfl
   have e2:(rawS T oth).num=T.num:=rfl
   have e3:(rawS T oth).out=T.out:=rfl
   have e4:(rawS T oth).steps=T.steps:=rfl
   generalize rawS T oth=r at *
   have hg1:r.fin=1:=e1.trans hf1
   rcases qAR 4000 L.length with hbig|hfit
   ·have hq:¬(L.length:Int)<=4000:=by omega
    rw[if_neg (by omega)]at hvl
    refine Stop.go ?_
    refine zBN (s:=[(6,.ptr 1 0),(11,.ptr 6 0)]) (h:=RA sb0 m r) (zAT (Le_all rfl) (zB5 _) rfl (zHw m r)) ?_
    repeat' first|(refine zLQ (id:=20) ?_)|apply en_n|apply zAH|apply zAA|apply zAD|apply w0|exact zMV rfl rfl|exact zAk rfl rfl|exact zAK rfl|(refine zAW idsR [] rfl rfl zAr (hT) rfl (SArgs_all rfl) rfl (by decide) rfl rfl rfl rfl)|(refine aVMs zFp hSh (SArgs_all rfl) rfl rfl ?_)|apply ay (hd:=rfl)|exact zBP rfl|exact zAy rfl|exact zA5 rfl zDO|exact zAG rfl|(apply zAC;exact rfl;(with_reducible first|exact zCa|exact zB1))|exact zAE rfl zCr rfl rfl|refine zAI rfl ?_|refine zAJ rfl ?_|apply zAS
    all_goals refine Stop.go ?_
    refine zCx 10 (mu:=true) rfl rfl ?_
    refine zEc 6 12 (d:=.slice (r.out.map str)) rfl rfl (zGJ rfl (qAC _).symm) ?_
    skip
    repeat' first|apply en_n|apply zAH|apply zAA|apply zAD|apply w0|(refine zBu ?_)|(refine zCJ ?_)|(refine RV_c rfl rfl zCE rfl rfl ?_ ?_)|(refine RV_d rfl ?_ ?_)|exact zDC|exact zAK rfl|exact zA4 rfl zCE rfl rfl rfl|refine zAh rfl rfl rfl zCE rfl rfl rfl rfl ?_|apply ay (hd:=rfl)|exact zAB rfl|exact zAG rfl|exact zAC rfl zB1|(refine w0' ?_)|apply zAQ
    ·rfl
    ·refine congrArg D.agg ?_
     rw[hvl,<-e1,<-e2,<-e3,<-e4]
     all_goals rfl
   ·have hq:(L.length:Int)<=4000:=by omega
    rw[if_pos hfit]at hvl
    refine Stop.go ?_
    refine zBN (s:=[(6,.ptr 1 0),(11,.ptr 6 0)]) (h:=RA sb0 m r) (zAT (Le_all rfl) (zB5 _) rfl (zHw m r)) ?_
    repeat' first|(refine zLQ (id:=20) ?_)|apply en_n|apply zAH|apply zAA|apply zAD|apply w0|exact zOi rfl rfl|exact zAk rfl rfl|exact zAK rfl|(refine zAW idsR [] rfl rfl zAr (hT) rfl (SArgs_all rfl) rfl (by decide) rfl rfl rfl rfl)|(refine aVMs zFp hSh (SArgs_all rfl) rfl rfl ?_)|apply ay (hd:=rfl)|exact zBP rfl|exact zAy rfl|exact zA5 rfl zDO|exact zAG rfl|(apply zAC;exact rfl;(with_reducible first|exact zCa|exact zFi|exact zB1))|exact zAE rfl zCr rfl rfl|(refine w0' ?_)|refine zAh rfl rfl rfl zGn rfl rfl rfl rfl ?_|refine zAI rfl ?_
    all_goals refine Stop.go ?_
    refine zCx 11 (mu:=true) rfl rfl ?_
    refine zCx 10 (mu:=true) rfl rfl ?_
    refine zEc 6 10 (d:=.slice (L.map nnD)) rfl rfl (zGJ rfl (qAC _).symm) ?_
    refine zEc 6 12 (d:=.slice (r.out.map str)) rfl rfl (zGJ rfl (qAC _).symm) ?_
    skip
    repeat' first|apply en_n|apply zAH|apply zAA|apply zAD|apply w0|(refine zBu ?_)|(refine zCJ ?_)|(refine RV_c rfl rfl zCE rfl rfl ?_ ?_)|(refine RV_d rfl ?_ ?_)|exact zDC|exact zAK rfl|exact zA4 rfl zCE rfl rfl rfl|refine zAh rfl rfl rfl zCE rfl rfl rfl rfl ?_|apply ay (hd:=rfl)|exact zAB rfl|exact zAG rfl|exact zAC rfl zB1|(refine w0' ?_)|apply zAQ
    ·rfl
    ·refine congrArg D.agg ?_
     rw[hvl,<-e1,<-e2,<-e3,<-e4]
     all_goals rfl
  ·have hvl:valN m T=[]:=by unfold valN;rw[if_neg (fun c=>hf1 c.1)]
   have e1:(rawS T oth).fin=T.fin:=rfl
   have e2:(rawS T oth).num=T.num:=rfl
   have e3:(rawS T oth).out=T.out:=rfl
   have e4:(rawS T oth).steps=T.steps:=rfl
   generalize rawS T oth=r at *
   have hg1:¬r.fin=1:=fun c=>hf1 (e1.symm.trans c)
   refine Stop.go ?_
   refine zBN (s:=[(6,.ptr 1 0),(11,.ptr 6 0)]) (h:=RA sb0 m r) (zAT (Le_all rfl) (zB5 _) rfl (zHw m r)) ?_
   repeat' first|(refine zLQ (id:=20) ?_)|apply en_n|apply zAA|apply zAD|apply w0|exact zAm rfl rfl|exact zAK rfl|apply ay (hd:=rfl)|exact zAG rfl|(apply zAC;exact rfl;(with_reducible first|exact zCa|exact zB1))|exact zAE rfl zCr rfl rfl|refine zAJ rfl ?_|apply zAS
   all_goals refine Stop.go ?_
   refine zCx 10 (mu:=true) rfl rfl ?_
   refine zEc 6 12 (d:=.slice (r.out.map str)) rfl rfl (zGJ rfl (qAC _).symm) ?_
   skip
   repeat' first|apply en_n|apply zAH|apply zAA|apply zAD|apply w0|(refine zBu ?_)|(refine zCJ ?_)|(refine RV_c rfl rfl zCE rfl rfl ?_ ?_)|(refine RV_d rfl ?_ ?_)|exact zDC|exact zAK rfl|exact zA4 rfl zCE rfl rfl rfl|refine zAh rfl rfl rfl zCE rfl rfl rfl rfl ?_|apply ay (hd:=rfl)|exact zAB rfl|exact zAG rfl|exact zAC rfl zB1|(refine w0' ?_)|apply zAQ
   ·rfl
   ·refine congrArg D.agg ?_
    rw[hvl,<-e1,<-e2,<-e3,<-e4]
    all_goals rfl
end Go.Proofs.YtcagoomibpcdlaaGreatDoor
