/- Texts of this claim, merged: VmCP. -/
import Derived.Test.YtcagoomibpcdlaaGreatDoorMBG
namespace Go.Proofs.YtcagoomibpcdlaaGreatDoor
open Go.Sx Go.Vm
def valN(m:Img)(T:St): List Nn:=if T.fin=1∧(zE8 m T.all (T.top 0)).length≤4000 then zE8 m T.all (T.top 0)else[]
attribute [local irreducible] zAQ Program.underlying Ylds zBD alex zCA zBi awp zAp zCI zCH zAW zBw zA5 zD4 zB0 zBp zBF zBv zB9 zCE zES zBn zBm zBs
set_option maxHeartbeats 16000000 in
theorem zYe{con:List UInt8→Bool}{m:Img}{A:Nat→Option VS}(hg:Go.Vm.Good con m A)(hi:ImgOk m)(words fuel:Nat)(hw:16≤words∧words≤1048576)(hfu:fuel≤100000)(hV:zAp Tryz.prog 18 [zDY m] (i64 0))(T:St)(hT0:T=runS shw m fuel (Go.Vm.start words)):
  zAp Tryz.prog 10 [zDY m,i64 (words:Int),i64 (fuel:Int)] (.tup [zJd T.fin (valN m T) T.num T.out T.steps,i64 0]):=by
 have hN:=zUj words hw
 have hNum:=zOF [] [] 0
 have hn1:¬(fuel:Int)<0:=by omega
 have hn2:¬(fuel:Int)>100000:=by omega
 refine zDy Tryz.func10 rfl Tryz.ntmps10 Tryz.results10 rfl ?_
 intro wb St0
 unfold zDY at *
 repeat' first|(apply zRS;(with_reducible exact zSA);(with_reducible exact zR3);exact zRj rfl (zRj rfl zYh);exact rfl;exact rfl;exact rfl;exact rfl)|apply en_n|apply zAK|apply zAA|apply zAF|apply w0|exact zJV rfl|exact zUh rfl|exact zUg rfl|(apply zCk;exact rfl;exact rfl;first|assumption|omega)|(apply zDt;exact rfl;exact rfl;first|assumption|omega)|(apply zGJ;exact rfl;exact rfl;first|assumption|omega)|exact zAN rfl|(refine zAh zDi hV (zAa rfl zAR))|(refine zN6 [] zG7 hN ?_ rfl rfl (by decide) rfl rfl rfl rfl rfl rfl ?_;(repeat (refine zAB rfl ?_));exact zAE)|(refine zAh zFr hNum (zAa rfl zAR))|(apply aBox (hd:=rfl) (hro:=rfl);exact rfl;exact rfl)|(apply zDs (hd:=rfl) (hro:=rfl);(with_reducible exact zEq))|apply ay (hd:=rfl)|exact zAJ rfl|exact zAD rfl|exact zAc rfl rfl|exact zAH rfl|exact zFI rfl|(apply zAC;exact rfl;(with_reducible first|exact zC1|exact zAb))|(apply zBG;exact rfl;(with_reducible exact zDG);exact rfl;exact rfl;exact rfl)|(apply w1;exact rfl;exact rfl)|(refine w0' ?_)|(apply zAl;exact rfl;exact rfl;exact rfl;(with_reducible exact zBQ);exact rfl;exact rfl;exact rfl;exact rfl)|(apply zAM;exact rfl)|apply zAO|apply zAU
 all_goals first|omega|skip
 refine zFG 6 3 true 58 1 rfl rfl rfl ?_
 refine zFG 6 7 true 60 3 rfl rfl rfl ?_
 refine zFG 6 8 true 114 5 rfl rfl rfl ?_
 refine zFG 6 12 true 9 1 rfl rfl rfl ?_
 refine zBo (α:=St×List Nat×Nat) (fun x=>Run con m A (words:Int) fuel T shw x.1 x.2.2) (fun _=>[(2,.d (i64 (fuel:Int))),(6,.ptr 1 0),(11,.ptr 6 0)]) (fun x=>RA sb0 m (rawS x.1 x.2.1)) (fun x=>fuel-x.2.2) (Go.Vm.start words,[],0) ?_ ?_ ?_
 ·rw[hT0];exact Run.begin_ hg hi (by omega)
 ·exact zAV (zAI rfl (zAI rfl (zAI rfl zAd))) (zHh rfl (zH1 rfl zOC (zH1 rfl zOC (zAP rfl rfl (zAP rfl rfl (zAP rfl rfl (zH1 rfl zOC (zAP rfl rfl (zAP rfl rfl (zAP rfl rfl (zAP rfl rfl zA7))))))))))) rfl (zHg m _)
 rintro⟨s,oth,k⟩ hR
 dsimp only at hR ⊢
 have hst:=hR.steps
 have hkl:=hR.le
 by_cases h0:s.fin=0
 ·by_cases hk:k<fuel
  ·obtain⟨hm,hn⟩:=hR.next h0 hk
   obtain⟨oth',hS⟩:=zXQ hm ⟨by show 0≤s.words;rw[hR.words];omega,by show s.words≤_;rw[hR.words];omega,by have:=hR.tr;show s.tries.length≤_;omega,by have:=hR.out;show s.out.length≤_;omega⟩ oth
   generalize Go.Vm.step shw m { s with steps:=s.steps+1 }=s2 at hn hS
   have hS':zAW Tryz.prog 22 [.ptr 0 0] (MX m { rawS s oth with steps:=(rawS s oth).steps+1 }) .top (MX m (rawS s2 oth')):=hS
   have g0:(rawS s oth).fin=0:=h0
   have g1':(rawS s oth).steps=k:=hst
   clear hS
   generalize rawS s oth=r at *
   have hkk:¬r.steps=(fuel:Int):=by omega
   repeat' first|(refine zFE (id:=15) (s:=[(2,.d (i64 (fuel:Int))),(6,.ptr 1 0),(11,.ptr 6 0)]) (h:=RA sb0 m { r with steps:=r.steps+1 }) (zAV (zAI rfl (zAI rfl (zAI rfl zAd))) (zB2 _) rfl (zHg m _)) ?_)|apply en_n|apply zAK|apply zAA|apply zAF|apply w0|(apply zAn;exact rfl;exact rfl;first|assumption|omega)|(apply zAs;exact rfl;exact rfl;first|assumption|omega)|exact zAN rfl|(refine aVMx rfl zOu hS' ?_ rfl rfl ?_;(repeat (refine zAB rfl ?_));exact zAE)|apply ay (hd:=rfl)|exact zAJ rfl|(apply zBL;exact rfl;exact rfl)|exact zAH rfl|(apply zAC;exact rfl;(with_reducible first|exact zCr|exact zF1|exact zBz))|(apply zAG;exact rfl;(with_reducible first|exact zDD|exact zAS);exact rfl;exact rfl)|(refine w0' ?_)|(apply zAl;exact rfl;exact rfl;exact rfl;(with_reducible exact zAS);exact rfl;exact rfl;exact rfl;exact rfl)|(apply zAL;exact rfl)|(apply zAM;exact rfl)|apply zAO|apply zAU|apply eb_n
   all_goals first|omega|skip
   exact⟨(s2,oth',k+1),hn,by dsimp only;omega,zAV (zAI rfl (zAI rfl (zAI rfl zAd))) (zB2 _) rfl (zHg m _)⟩
  ·have hTs:=hR.out_ h0 hk
   have hTres:Res con m A T:=by rw[hTs];exact .stop hR.res.lay (by decide) (by decide)
   have hTw:T.words=words:=by rw[hTs];exact hR.words
   have hTstk:T.stack.length≤1048576:=by rw[hTs];have:=hR.stk;show s.stack.length≤_;omega
   have hSt:=zEf m (rawS s oth) 3
   have hrw:{ rawS s oth with fin:=3 }=rawS T oth:=by rw[hTs];rfl
   rw[hrw]at hSt
   have g0:(rawS s oth).fin=0:=h0
   have hkk:(rawS s oth).steps=(fuel:Int):=by have:(rawS s oth).steps=s.steps:=rfl;omega
   clear hR hTs hrw hst
   generalize rawS s oth=r0 at *
   repeat' first|(refine zK2 (id:=16) ?_)|apply en_n|apply zAK|apply zAA|apply zAF|apply w0|(apply zAn;exact rfl;exact rfl;first|assumption|omega)|exact zAN rfl|(refine aVMx rfl zDB hSt ?_ rfl rfl ?_;(repeat (refine zAB rfl ?_));exact zAE)|apply ay (hd:=rfl)|exact zAJ rfl|exact zAH rfl|(apply zAC;exact rfl;(with_reducible first|exact zCr|exact zF1|exact zBz))|(apply zAG;exact rfl;(with_reducible first|exact zDD|exact zAS);exact rfl;exact rfl)|(apply zAL;exact rfl)|apply zAO|apply zAU|apply zBu|apply en_e|apply eb_e|refine eb_o rfl ?_
   all_goals first|omega|skip
   have hTl:T.stack.length≤1048576:=hTstk
   by_cases hf1:T.fin=1
   ·have hne:=hTres.val hf1
    have hpos:0<T.stack.length:=List.length_pos_iff.2 hne
    have hv0:Val T (T.top 0):=hTres.lay.stack (zEX hpos)
    have hT:=zBl m (rawS T oth) (k:=0) (by rw[zBO];exact hpos) (zEt T oth hpos) (by rw[zBO];exact hTl)
    have hlen:=zKL m T.all (rkR (T.top 0)+1) [] (T.top 0) (Nat.zero_le _)
    have hSh0:=zPp hTres.lay hi (by rw[hTw];omega) oth (rkR (T.top 0)+1) [] (T.top 0) (Nat.lt_succ_self _) hv0 (Nat.zero_le _)
    change (zE8 m T.all (T.top 0)).length≤4001 at hlen
    change zHf m (rawS T oth) [] (zE8 m T.all (T.top 0)) _ at hSh0
    have hvl:valN m T=if(zE8 m T.all (T.top 0)).length≤4000 then zE8 m T.all (T.top 0)else[]:=by unfold valN;by_cases h:(zE8 m T.all (T.top 0)).length≤4000 <;> simp[h,hf1]
    generalize hL:zE8 m T.all (T.top 0)=L at *
    have hSh:zAW Tryz.prog 23 [.ptr 0 0,.nil,.d (w64 (wdN T.all T.ly (T.top 0)))] (MX m (rawS T oth)) (.buf 9 L.length) (MXr m (rawS T oth) (L.map nnD)):=zLN (k:=9) [.ptr 0 0] [.d (w64 (wdN T.all T.ly (T.top 0)))] rfl hSh0
    have e1:(rawS T oth).fin=T.fin:=rfl
    have e2:(rawS T oth).num=T.num:=rfl
    have e3:(rawS T oth).out=T.out:=rfl
    have e4:(rawS T oth).steps=T.steps:=rfl
    generalize rawS T oth=r at *
    have hg1:r.fin=1:=e1.trans hf1
    rcases Nat.lt_or_ge 4000 L.length with hbig|hfit
    ·have hq:¬(L.length:Int)≤4000:=by omega
     rw[if_neg (by omega)]at hvl
     refine Stop.go ?_
     refine zBP (s:=[(6,.ptr 1 0),(11,.ptr 6 0)]) (h:=RA sb0 m r) (zAV (zAI rfl (zAI rfl zAd)) (zB2 _) rfl (zHg m r)) ?_
     repeat' first|(refine zK2 (id:=20) ?_)|apply en_n|apply zAK|apply zAA|apply zAF|apply w0|(apply zL2;exact rfl;exact rfl;first|assumption|omega)|(apply zAn;exact rfl;exact rfl;first|assumption|omega)|exact zAN rfl|(refine zAZ idsR [] rfl rfl zAv (hT) rfl ?_ rfl (by decide) rfl rfl rfl rfl;(repeat (refine zAB rfl ?_));exact zAE)|(refine aVMs zFW hSh ?_ rfl rfl ?_;(repeat (refine zAB rfl ?_));exact zAE)|apply ay (hd:=rfl)|exact zBR rfl|exact zAz rfl|(apply zA4;exact rfl;(with_reducible exact zDj))|exact zAH rfl|(apply zAC;exact rfl;(with_reducible first|exact zCr|exact zBz))|(apply zAG;exact rfl;(with_reducible exact zDD);exact rfl;exact rfl)|(apply zAL;exact rfl)|(apply zAM;exact rfl)|apply zAU
     all_goals refine Stop.go ?_
     refine zCq 10 (mu:=true) rfl rfl ?_
     refine zEV 6 12 (d:=.slice (r.out.map str)) rfl rfl (zFy rfl (List.length_map _).symm) ?_
     skip
     repeat' first|apply en_n|apply zAK|apply zAA|apply zAF|apply w0|(refine zBq ?_)|(refine zCJ ?_)|(refine RV_c rfl rfl zCR rfl rfl ?_ ?_)|(refine RV_d rfl ?_ ?_)|exact zC6|exact zAN rfl|(apply zBG;exact rfl;exact zCR;exact rfl;exact rfl;exact rfl)|(apply zAl;exact rfl;exact rfl;exact rfl;exact zCR;exact rfl;exact rfl;exact rfl;exact rfl)|apply ay (hd:=rfl)|exact zAD rfl|exact zAH rfl|(apply zAC;exact rfl;(with_reducible exact zBz))|(refine w0' ?_)|apply zAT
     ·rfl
     ·refine congrArg D.agg ?_
      rw[hvl,←e1,←e2,←e3,←e4]
      all_goals rfl
    ·have hq:(L.length:Int)≤4000:=by omega
     rw[if_pos hfit]at hvl
     refine Stop.go ?_
     refine zBP (s:=[(6,.ptr 1 0),(11,.ptr 6 0)]) (h:=RA sb0 m r) (zAV (zAI rfl (zAI rfl zAd)) (zB2 _) rfl (zHg m r)) ?_
     repeat' first|(refine zK2 (id:=20) ?_)|apply en_n|apply zAK|apply zAA|apply zAF|apply w0|(apply zN7;exact rfl;exact rfl;first|assumption|omega)|(apply zAn;exact rfl;exact rfl;first|assumption|omega)|exact zAN rfl|(refine zAZ idsR [] rfl rfl zAv (hT) rfl ?_ rfl (by decide) rfl rfl rfl rfl;(repeat (refine zAB rfl ?_));exact zAE)|(refine aVMs zFW hSh ?_ rfl rfl ?_;(repeat (refine zAB rfl ?_));exact zAE)|apply ay (hd:=rfl)|exact zBR rfl|exact zAz rfl|(apply zA4;exact rfl;(with_reducible exact zDj))|exact zAH rfl|(apply zAC;exact rfl;(with_reducible first|exact zCr|exact zHF|exact zBz))|(apply zAG;exact rfl;(with_reducible exact zDD);exact rfl;exact rfl)|(refine w0' ?_)|(apply zAl;exact rfl;exact rfl;exact rfl;(with_reducible exact zIL);exact rfl;exact rfl;exact rfl;exact rfl)|(apply zAL;exact rfl)
     all_goals refine Stop.go ?_
     refine zCq 11 (mu:=true) rfl rfl ?_
     refine zCq 10 (mu:=true) rfl rfl ?_
     refine zEV 6 10 (d:=.slice (L.map nnD)) rfl rfl (zFy rfl (List.length_map _).symm) ?_
     refine zEV 6 12 (d:=.slice (r.out.map str)) rfl rfl (zFy rfl (List.length_map _).symm) ?_
     skip
     repeat' first|apply en_n|apply zAK|apply zAA|apply zAF|apply w0|(refine zBq ?_)|(refine zCJ ?_)|(refine RV_c rfl rfl zCR rfl rfl ?_ ?_)|(refine RV_d rfl ?_ ?_)|exact zC6|exact zAN rfl|(apply zBG;exact rfl;exact zCR;exact rfl;exact rfl;exact rfl)|(apply zAl;exact rfl;exact rfl;exact rfl;exact zCR;exact rfl;exact rfl;exact rfl;exact rfl)|apply ay (hd:=rfl)|exact zAD rfl|exact zAH rfl|(apply zAC;exact rfl;(with_reducible exact zBz))|(refine w0' ?_)|apply zAT
     ·rfl
     ·refine congrArg D.agg ?_
      rw[hvl,←e1,←e2,←e3,←e4]
      all_goals rfl
   ·have hvl:valN m T=[]:=by unfold valN;rw[if_neg (fun c=>hf1 c.1)]
    have e1:(rawS T oth).fin=T.fin:=rfl
    have e2:(rawS T oth).num=T.num:=rfl
    have e3:(rawS T oth).out=T.out:=rfl
    have e4:(rawS T oth).steps=T.steps:=rfl
    generalize rawS T oth=r at *
    have hg1:¬r.fin=1:=fun c=>hf1 (e1.symm.trans c)
    refine Stop.go ?_
    refine zBP (s:=[(6,.ptr 1 0),(11,.ptr 6 0)]) (h:=RA sb0 m r) (zAV (zAI rfl (zAI rfl zAd)) (zB2 _) rfl (zHg m r)) ?_
    repeat' first|(refine zK2 (id:=20) ?_)|apply en_n|apply zAA|apply zAF|apply w0|(apply zAs;exact rfl;exact rfl;first|assumption|omega)|exact zAN rfl|apply ay (hd:=rfl)|exact zAH rfl|(apply zAC;exact rfl;(with_reducible first|exact zCr|exact zBz))|(apply zAG;exact rfl;(with_reducible exact zDD);exact rfl;exact rfl)|(apply zAM;exact rfl)|apply zAU
    all_goals refine Stop.go ?_
    refine zCq 10 (mu:=true) rfl rfl ?_
    refine zEV 6 12 (d:=.slice (r.out.map str)) rfl rfl (zFy rfl (List.length_map _).symm) ?_
    skip
    repeat' first|apply en_n|apply zAK|apply zAA|apply zAF|apply w0|(refine zBq ?_)|(refine zCJ ?_)|(refine RV_c rfl rfl zCR rfl rfl ?_ ?_)|(refine RV_d rfl ?_ ?_)|exact zC6|exact zAN rfl|(apply zBG;exact rfl;exact zCR;exact rfl;exact rfl;exact rfl)|(apply zAl;exact rfl;exact rfl;exact rfl;exact zCR;exact rfl;exact rfl;exact rfl;exact rfl)|apply ay (hd:=rfl)|exact zAD rfl|exact zAH rfl|(apply zAC;exact rfl;(with_reducible exact zBz))|(refine w0' ?_)|apply zAT
    ·rfl
    ·refine congrArg D.agg ?_
     rw[hvl,←e1,←e2,←e3,←e4]
     all_goals rfl
 ·have hTs:=hR.done h0
  have hTres:Res con m A T:=by rw[hTs];exact hR.res
  have hTw:T.words=words:=by rw[hTs];exact hR.words
  have hTstk:T.stack.length≤1048576:=by rw[hTs];have:=hR.stk;omega
  rw[←hTs]at h0 ⊢
  clear hR hTs hst
  have g0:¬(rawS T oth).fin=0:=h0
  repeat' first|(refine zK2 (id:=16) ?_)|apply en_n|apply zAK|apply zAA|apply zAF|apply w0|(apply zAs;exact rfl;exact rfl;first|assumption|omega)|exact zAN rfl|apply ay (hd:=rfl)|exact zAH rfl|(apply zAC;exact rfl;(with_reducible first|exact zCr|exact zBz))|(apply zAG;exact rfl;(with_reducible exact zDD);exact rfl;exact rfl)|(apply zAM;exact rfl)|apply zBu|apply en_e|apply eb_e
  all_goals first|omega|skip
  have hTl:T.stack.length≤1048576:=hTstk
  by_cases hf1:T.fin=1
  ·have hne:=hTres.val hf1
   have hpos:0<T.stack.length:=List.length_pos_iff.2 hne
   have hv0:Val T (T.top 0):=hTres.lay.stack (zEX hpos)
   have hT:=zBl m (rawS T oth) (k:=0) (by rw[zBO];exact hpos) (zEt T oth hpos) (by rw[zBO];exact hTl)
   have hlen:=zKL m T.all (rkR (T.top 0)+1) [] (T.top 0) (Nat.zero_le _)
   have hSh0:=zPp hTres.lay hi (by rw[hTw];omega) oth (rkR (T.top 0)+1) [] (T.top 0) (Nat.lt_succ_self _) hv0 (Nat.zero_le _)
   change (zE8 m T.all (T.top 0)).length≤4001 at hlen
   change zHf m (rawS T oth) [] (zE8 m T.all (T.top 0)) _ at hSh0
   have hvl:valN m T=if(zE8 m T.all (T.top 0)).length≤4000 then zE8 m T.all (T.top 0)else[]:=by unfold valN;by_cases h:(zE8 m T.all (T.top 0)).length≤4000 <;> simp[h,hf1]
   generalize hL:zE8 m T.all (T.top 0)=L at *
   have hSh:zAW Tryz.prog 23 [.ptr 0 0,.nil,.d (w64 (wdN T.all T.ly (T.top 0)))] (MX m (rawS T oth)) (.buf 9 L.length) (MXr m (rawS T oth) (L.map nnD)):=zLN (k:=9) [.ptr 0 0] [.d (w64 (wdN T.all T.ly (T.top 0)))] rfl hSh0
   have e1:(rawS T oth).fin=T.fin:=rfl
   have e2:(rawS T oth).num=T.num:=rfl
   have e3:(rawS T oth).out=T.out:=rfl
   have e4:(rawS T oth).steps=T.steps:=rfl
   generalize rawS T oth=r at *
   have hg1:r.fin=1:=e1.trans hf1
   rcases Nat.lt_or_ge 4000 L.length with hbig|hfit
   ·have hq:¬(L.length:Int)≤4000:=by omega
    rw[if_neg (by omega)]at hvl
    refine Stop.go ?_
    refine zBP (s:=[(6,.ptr 1 0),(11,.ptr 6 0)]) (h:=RA sb0 m r) (zAV (zAI rfl (zAI rfl zAd)) (zB2 _) rfl (zHg m r)) ?_
    repeat' first|(refine zK2 (id:=20) ?_)|apply en_n|apply zAK|apply zAA|apply zAF|apply w0|(apply zL2;exact rfl;exact rfl;first|assumption|omega)|(apply zAn;exact rfl;exact rfl;first|assumption|omega)|exact zAN rfl|(refine zAZ idsR [] rfl rfl zAv (hT) rfl ?_ rfl (by decide) rfl rfl rfl rfl;(repeat (refine zAB rfl ?_));exact zAE)|(refine aVMs zFW hSh ?_ rfl rfl ?_;(repeat (refine zAB rfl ?_));exact zAE)|apply ay (hd:=rfl)|exact zBR rfl|exact zAz rfl|(apply zA4;exact rfl;(with_reducible exact zDj))|exact zAH rfl|(apply zAC;exact rfl;(with_reducible first|exact zCr|exact zBz))|(apply zAG;exact rfl;(with_reducible exact zDD);exact rfl;exact rfl)|(apply zAL;exact rfl)|(apply zAM;exact rfl)|apply zAU
    all_goals refine Stop.go ?_
    refine zCq 10 (mu:=true) rfl rfl ?_
    refine zEV 6 12 (d:=.slice (r.out.map str)) rfl rfl (zFy rfl (List.length_map _).symm) ?_
    skip
    repeat' first|apply en_n|apply zAK|apply zAA|apply zAF|apply w0|(refine zBq ?_)|(refine zCJ ?_)|(refine RV_c rfl rfl zCR rfl rfl ?_ ?_)|(refine RV_d rfl ?_ ?_)|exact zC6|exact zAN rfl|(apply zBG;exact rfl;exact zCR;exact rfl;exact rfl;exact rfl)|(apply zAl;exact rfl;exact rfl;exact rfl;exact zCR;exact rfl;exact rfl;exact rfl;exact rfl)|apply ay (hd:=rfl)|exact zAD rfl|exact zAH rfl|(apply zAC;exact rfl;(with_reducible exact zBz))|(refine w0' ?_)|apply zAT
    ·rfl
    ·refine congrArg D.agg ?_
     rw[hvl,←e1,←e2,←e3,←e4]
     all_goals rfl
   ·have hq:(L.length:Int)≤4000:=by omega
    rw[if_pos hfit]at hvl
    refine Stop.go ?_
    refine zBP (s:=[(6,.ptr 1 0),(11,.ptr 6 0)]) (h:=RA sb0 m r) (zAV (zAI rfl (zAI rfl zAd)) (zB2 _) rfl (zHg m r)) ?_
    repeat' first|(refine zK2 (id:=20) ?_)|apply en_n|apply zAK|apply zAA|apply zAF|apply w0|(apply zN7;exact rfl;exact rfl;first|assumption|omega)|(apply zAn;exact rfl;exact rfl;first|assumption|omega)|exact zAN rfl|(refine zAZ idsR [] rfl rfl zAv (hT) rfl ?_ rfl (by decide) rfl rfl rfl rfl;(repeat (refine zAB rfl ?_));exact zAE)|(refine aVMs zFW hSh ?_ rfl rfl ?_;(repeat (refine zAB rfl ?_));exact zAE)|apply ay (hd:=rfl)|exact zBR rfl|exact zAz rfl|(apply zA4;exact rfl;(with_reducible exact zDj))|exact zAH rfl|(apply zAC;exact rfl;(with_reducible first|exact zCr|exact zHF|exact zBz))|(apply zAG;exact rfl;(with_reducible exact zDD);exact rfl;exact rfl)|(refine w0' ?_)|(apply zAl;exact rfl;exact rfl;exact rfl;(with_reducible exact zIL);exact rfl;exact rfl;exact rfl;exact rfl)|(apply zAL;exact rfl)
    all_goals refine Stop.go ?_
    refine zCq 11 (mu:=true) rfl rfl ?_
    refine zCq 10 (mu:=true) rfl rfl ?_
    refine zEV 6 10 (d:=.slice (L.map nnD)) rfl rfl (zFy rfl (List.length_map _).symm) ?_
    refine zEV 6 12 (d:=.slice (r.out.map str)) rfl rfl (zFy rfl (List.length_map _).symm) ?_
    skip
    repeat' first|apply en_n|apply zAK|apply zAA|apply zAF|apply w0|(refine zBq ?_)|(refine zCJ ?_)|(refine RV_c rfl rfl zCR rfl rfl ?_ ?_)|(refine RV_d rfl ?_ ?_)|exact zC6|exact zAN rfl|(apply zBG;exact rfl;exact zCR;exact rfl;exact rfl;exact rfl)|(apply zAl;exact rfl;exact rfl;exact rfl;exact zCR;exact rfl;exact rfl;exact rfl;exact rfl)|apply ay (hd:=rfl)|exact zAD rfl|exact zAH rfl|(apply zAC;exact rfl;(with_reducible exact zBz))|(refine w0' ?_)|apply zAT
    ·rfl
    ·refine congrArg D.agg ?_
     rw[hvl,←e1,←e2,←e3,←e4]
     all_goals rfl
  ·have hvl:valN m T=[]:=by unfold valN;rw[if_neg (fun c=>hf1 c.1)]
   have e1:(rawS T oth).fin=T.fin:=rfl
   have e2:(rawS T oth).num=T.num:=rfl
   have e3:(rawS T oth).out=T.out:=rfl
   have e4:(rawS T oth).steps=T.steps:=rfl
   generalize rawS T oth=r at *
   have hg1:¬r.fin=1:=fun c=>hf1 (e1.symm.trans c)
   refine Stop.go ?_
   refine zBP (s:=[(6,.ptr 1 0),(11,.ptr 6 0)]) (h:=RA sb0 m r) (zAV (zAI rfl (zAI rfl zAd)) (zB2 _) rfl (zHg m r)) ?_
   repeat' first|(refine zK2 (id:=20) ?_)|apply en_n|apply zAA|apply zAF|apply w0|(apply zAs;exact rfl;exact rfl;first|assumption|omega)|exact zAN rfl|apply ay (hd:=rfl)|exact zAH rfl|(apply zAC;exact rfl;(with_reducible first|exact zCr|exact zBz))|(apply zAG;exact rfl;(with_reducible exact zDD);exact rfl;exact rfl)|(apply zAM;exact rfl)|apply zAU
   all_goals refine Stop.go ?_
   refine zCq 10 (mu:=true) rfl rfl ?_
   refine zEV 6 12 (d:=.slice (r.out.map str)) rfl rfl (zFy rfl (List.length_map _).symm) ?_
   skip
   repeat' first|apply en_n|apply zAK|apply zAA|apply zAF|apply w0|(refine zBq ?_)|(refine zCJ ?_)|(refine RV_c rfl rfl zCR rfl rfl ?_ ?_)|(refine RV_d rfl ?_ ?_)|exact zC6|exact zAN rfl|(apply zBG;exact rfl;exact zCR;exact rfl;exact rfl;exact rfl)|(apply zAl;exact rfl;exact rfl;exact rfl;exact zCR;exact rfl;exact rfl;exact rfl;exact rfl)|apply ay (hd:=rfl)|exact zAD rfl|exact zAH rfl|(apply zAC;exact rfl;(with_reducible exact zBz))|(refine w0' ?_)|apply zAT
   ·rfl
   ·refine congrArg D.agg ?_
    rw[hvl,←e1,←e2,←e3,←e4]
    all_goals rfl
end Go.Proofs.YtcagoomibpcdlaaGreatDoor
