import Derived.Test.YtcagoomibpcdlaaGreatDoorMBP
set_option maxHeartbeats 16000000
namespace Go.Proofs.YtcagoomibpcdlaaGreatDoor
open Go.Sx Go.Vm
open _root_.Go.Proofs.Tryz
section
structure DRn(s:St)(k:Nat): Prop where
 all_:s.all.length<=k
 pin:zJ7 s.all
 txt:∀o∈s.all,o.kind=4\/o.text=[]
abbrev seZ: List SV:=List.map cst [Value.int IntKind.i64 0,Value.slice none 0 0,Value.int IntKind.i64 0,Value.slice none 0 0,Value.int IntKind.i64 0]
attribute [local irreducible] zAL Program.underlying Ylds zA2 alex zBZ zBP awp zAb zBh zBg zAW zBF zAp zCO zBG zBR zAr zBV zBY zBe zCQ zBM zA8 zBE JFit
theorem zbZ{con:List UInt8->Bool}{m:Img}{A:Nat->Option VS}(hg:Go.Vm.Good con m A)(hi:ImgOk m)(words fuel:Nat)(hw:words<=1048576)(hfu:fuel<=100000)(T:St)(hT0:T=runS shw m fuel (Go.Vm.start words)):
  zAb prog 14 [zCs m,i64 (words:Int),i64 (fuel:Int)] (zIt T.fin (valN m T) T.num T.out T.steps):=by
 have hN:=zLl 0
 replace hN:zAb prog 27 [i64 0] (.agg [bl true,i64 0]):=hN
 refine zB0 func14 rfl ntmps14 results14 rfl ?_
 intro wb St0
 unfold zCs at *
 repeat' first|apply en_n|apply zAE|apply zAA|apply zAB|apply w0|(refine zBI (cs:=[i64 (words:Int),i64 0,.slice []]) zZh zHm (PD_d rfl rfl zCI) rfl)|(refine zBI (cs:=[.slice (m.pool.map enCn),.slice (m.code.map enIn),i64 (words:Int),i64 0,.slice [],.slice [],i64 0,i64 0,bl false,i64 0,.slice [],.slice [],i64 0,i64 0,.slice [],i64 0]) zZj zDj (PD_d rfl rfl (PD_d rfl rfl zCI)) rfl)|exact ycA zFZ hN|refine aBoA ?_|refine aAlA ?_|refine ayA rfl ?_|apply ay (hd:=rfl)|(refine w0' ?_)|refine aStA ?_|apply zAO
 all_goals first|omega|skip
 refine zBA (α:=St×Nat) (fun x=>Run con m A (words:Int) fuel T shw x.1 x.2/\DRn x.1 x.2) (fun _=>[(2,.d (i64 (fuel:Int))),(6,.ptr 1 0),(7,.ptr 2 0)]) (fun x=>[.gone,.box seZ,.box (smC m x.1)]) (fun x=>2*(fuel-x.2)+(if x.1.fin=0 then 1 else 0)) (Go.Vm.start words,0) ?_ ?_ ?_
 ·refine⟨by rw[hT0];exact Run.begin_ hg hi (by omega),qAP _,(fun o ho=>by cases ho),(fun o ho=>by cases ho)⟩
 ·exact zAU (Le_all rfl) (zDV rfl (zD5 rfl zMd (zD5 rfl zMd zAe))) rfl rfl
 rintro⟨s,k⟩ ⟨hR,hD⟩
 dsimp only at hR hD ⊢
 have hst:=hR.steps
 have hkl:=hR.le
 by_cases h0:s.fin=0
 ·rw[if_pos h0]
  by_cases hk:k<fuel
  ·obtain⟨hm,hn⟩:=hR.next h0 hk
   have hB:DBnd ({ s with steps:=s.steps+1 }:St):=⟨by show 0<=s.words;rw[hR.words];omega,by show s.words<=_;rw[hR.words];omega,by have:=hR.tr;show s.tries.length<=_;omega,by have:=hR.out;show s.out.length<=_;omega,by have:=hD.all_;show s.all.length<=_;omega,hD.pin,hD.txt⟩
   have hS:=zX5 hm hB
   have hgr:=zZ0 shw m { s with steps:=s.steps+1 }
   have hd2:DRn (Go.Vm.step shw m { s with steps:=s.steps+1 }) (k+1):=⟨by have h1:=zdL hgr;have h2:=hD.all_;change _<=s.all.length+1 at h1;omega,zc5 hm.lay hgr hD.pin,zcK hgr hD.txt⟩
   generalize Go.Vm.step shw m { s with steps:=s.steps+1 }=s2 at hn hS hd2
   have hkk:¬s.steps=(fuel:Int):=by omega
   clear hR hgr hB hm
   unfold smD at hS
   dsimp only at hS
   skip
   repeat' first|apply en_n|apply zAE|apply zAA|apply zAB|apply w0|exact ycA zNK hS|refine ayA rfl ?_|refine ayQ rfl ?_|apply ay (hd:=rfl)|refine zBp rfl rfl ?_|(refine w0' ?_)|refine aStA ?_|refine zAJ rfl ?_|refine zAI rfl ?_|apply zAO|apply zAP|apply eb_n
   all_goals first|omega|skip
   exact⟨(s2,k+1),⟨hn,hd2⟩,by dsimp only;split <;> omega,zAU (Le_all rfl) (zA4 _) rfl rfl⟩
  ·have hTs:=hR.out_ h0 hk
   have hTr:Run con m A (words:Int) fuel T shw (s.stop 3) k:=⟨.stop hR.res.lay (by decide) (by decide),hst,hkl,hR.words,hR.tr,hR.out,hR.stk,by rw[hTs,zQo shw m _ _ (by show (3:Int)≠0;decide)]⟩
   have hd2:DRn (s.stop 3) k:=⟨hD.all_,hD.pin,hD.txt⟩
   have hSt:=zDX m s 3
   have hkk:s.steps=(fuel:Int):=by omega
   have h3:(s.stop 3).fin=3:=rfl
   generalize s.stop 3=s2 at *
   clear hR hTs hD
   unfold smD at hSt
   skip
   repeat' first|apply en_n|apply zAE|apply zAA|apply zAB|apply w0|exact ycA zB3 hSt|refine ayA rfl ?_|refine ayQ rfl ?_|apply ay (hd:=rfl)|(refine w0' ?_)|refine aStA ?_|refine zAJ rfl ?_|apply zAO|apply zAP|apply eb_n
   all_goals first|omega|skip
   exact⟨(s2,k),⟨hTr,hd2⟩,by dsimp only;rw[h3];simp,zAU (Le_all rfl) (zA4 _) rfl rfl⟩
 ·have hTs:=hR.done h0
  have hTres:Res con m A T:=by rw[hTs];exact hR.res
  have hTA:T.all.length<=1000000:=by rw[hTs];have:=hD.all_;omega
  have hTS:T.stack.length<=1000000:=by rw[hTs];have:=hR.stk;omega
  rw[<-hTs]at h0 ⊢
  clear hR hTs hst hD
  skip
  repeat' first|(refine zCi (id:=9) ?_)|apply en_n|apply zAE|apply zAA|apply zAB|apply w0|(refine zBI (cs:=[i64 T.fin,.slice [],i64 T.num,.slice (T.out.map str),i64 T.steps]) zIs zDy (PD_d rfl rfl (PD_d rfl rfl (PD_d rfl rfl (PD_d rfl rfl zCI)))) rfl)|refine aAlA ?_|refine ayA rfl ?_|refine ayQ rfl ?_|apply ay (hd:=rfl)|(refine w0' ?_)|refine aStA ?_|refine zAI rfl ?_|apply zBH|apply en_e|apply eb_e
  all_goals first|omega|skip
  refine Stop.go ?_
  by_cases hf1:T.fin=1
  ·have hpos:0<T.stack.length:=qA3.2 (hTres.val hf1)
   have hT:=zRO m T 0 hpos hTS
   replace hT:zAb prog 31 [smD m T,i64 0] (rfD (T.top 0)):=hT
   have hlen:=zK8 m T.all (rkR (T.top 0)+1) [] (T.top 0) (qAQ _)
   have hSh0:=zO0 hTres.lay hTA (rkR (T.top 0)+1) [] (T.top 0) (Nat.lt_succ_self _) (zLG hTres.lay (qAm _ (top_mem T hpos)))
   change (zEr m T.all (T.top 0)).length<=4001 at hlen
   change NoTo m T [] (zEr m T.all (T.top 0)) _ at hSh0
   have hvl:valN m T=if(zEr m T.all (T.top 0)).length<=4000 then zEr m T.all (T.top 0)else[]:=by unfold valN;by_cases h:(zEr m T.all (T.top 0)).length<=4000 <;> simp[h,hf1]
   generalize hL:zEr m T.all (T.top 0)=L at *
   have hSh:zAW prog 30 [.d (smD m T),.nil,.d (rfD (T.top 0))] [] (.buf 0 L.length) (rowN L):=zLS (k:=0) [.d (smD m T)] [.d (rfD (T.top 0))] rfl hSh0
   clear hSh0 hL hTres
   generalize T.top 0=r at *
   rw[show rfD r=.agg [bl (rN r),i64 (rV r)]from rfl]at hT hSh
   unfold smD at hT hSh
   skip
   repeat' first|(refine zCi (id:=11) ?_)|apply en_n|apply zAE|apply zAA|apply zAB|apply w0|exact ycA zBw hT|(refine zCJ (by kernel_rfl) ?_;refine zPF [] zIi hSh (SArgs_all rfl) rfl rfl (by decide) rfl rfl rfl rfl rfl rfl ?_)|(refine zCJ (by kernel_rfl) ?_;refine aStA ?_)|refine ayA rfl ?_|refine ayQ rfl ?_|apply ay (hd:=rfl)|(refine w0' ?_)|refine zAJ rfl ?_|refine awDA ?_
   all_goals first|omega|skip
   refine Stop.go ?_
   refine zBW (s:=[(6,.ptr 1 0),(8,.ptr 3 0)]) (h:=[.gone,.box seZ,.gone,.box [.d (i64 T.fin),.buf 4 L.length,.d (i64 T.num),.d (.slice (T.out.map str)),.d (i64 T.steps)],.buf true 49 4 (L.map nnD)]) ?_ ?_
   ·exact zAU (Le_all rfl) (zDV rfl (zAK rfl rfl (zDV rfl (zAK rfl rfl (zAK rfl rfl zAe))))) rfl rfl
   refine zCm 4 (mu:=true) rfl rfl ?_
   refine zCb 3 1 (d:=.slice (L.map nnD)) rfl rfl (zDr rfl (qAC _).symm) ?_
   rw[hvl]
   unfold zIt
   rcases qAR 4000 L.length with hbig|hfit
   ·have hq:(L.length:Int)>4000:=by omega
    rw[if_neg (by omega)]
    repeat' first|apply en_n|apply zAE|apply zAA|apply zAB|apply w0|(refine zAX ?_)|(refine zAu ?_)|exact zA5|(refine RV_c rfl rfl zBy rfl rfl ?_ ?_)|exact zFo rfl rfl|apply ay (hd:=rfl)|exact zAn rfl zDK|exact zAF rfl zGG|exact zAG rfl zGb rfl rfl|exact zAT rfl zBy rfl rfl rfl|(refine w0' ?_)|(apply zAd;exact rfl;exact rfl;exact rfl;(with_reducible first|exact zBy|exact zGb);exact rfl;exact rfl;exact rfl;exact rfl)|refine zAJ rfl ?_|apply zAM
    all_goals first|omega|rfl|skip
   ·have hq:¬(L.length:Int)>4000:=by omega
    rw[if_pos hfit]
    repeat' first|apply en_n|apply zAE|apply zAA|apply zAB|apply w0|(refine zAX ?_)|(refine zAu ?_)|exact zA5|(with_reducible exact rfl)|(refine RV_c rfl rfl zBy rfl rfl ?_ ?_)|exact zEG rfl rfl|apply ay (hd:=rfl)|exact zAn rfl zDK|exact zAF rfl zGG|exact zAG rfl zGb rfl rfl|exact zAT rfl zBy rfl rfl rfl|(refine w0' ?_)|refine zAd rfl rfl rfl zBy rfl rfl rfl rfl ?_|refine zAI rfl ?_|apply zAP|apply zAM
    all_goals first|omega|rfl|skip
  ·have hvl:valN m T=[]:=by unfold valN;rw[if_neg (fun c=>hf1 c.1)]
   rw[hvl]
   unfold zIt
   repeat' first|apply en_n|apply zAE|apply zAA|apply zAB|apply w0|(refine zAX ?_)|(refine zAu ?_)|exact zA5|(refine RV_c rfl rfl zBy rfl rfl ?_ ?_)|exact zAx rfl rfl|apply ay (hd:=rfl)|exact zAF rfl zG1|exact zAG rfl zDI rfl rfl|exact zAT rfl zBy rfl rfl rfl|(refine w0' ?_)|refine zAd rfl rfl rfl zBy rfl rfl rfl rfl ?_|refine zAI rfl ?_|apply zAP|apply zAM
   all_goals first|omega|rfl|skip
end
section
attribute [local irreducible] zAL Program.underlying Ylds zA2 alex zBZ zBP awp zAb zBh zBg zAW zBF zAp zCO zBG zBR zAr zBV zBY zBe zCQ zBM zA8 zBE
theorem zW0(m:Img)(w f:Int): zAb prog 3 [zCs m,i64 w,i64 f] (bl true):=by
 have hA:=zYL
 have hF:=zdW m w f
 refine zAj func3 rfl ntmps3 results3 rfl ?_
 intro wb St0
 cases hfw:few3 m w f
 ·rw[hfw]at hF
  unfold zCs at *
  skip
  exact yN
 ·rw[hfw]at hF
  obtain⟨hm,hw,hf,-,-⟩:=zVF hfw
  have hC:=zWD m hm.pool hm.code
  have hV:=zSF m hm.code
  have hR1:=zNi m hm w f (by omega) (by omega)
  have hS0:=zPK 0 0 0 0 0 0 [] [] [] [] (by decide) (by decide)
  replace hS0:zAb prog 13 [.agg [i64 0,.slice [],i64 0,.slice [],i64 0],.agg [i64 0,.slice [],i64 0,.slice [],i64 0]] (bl true):=hS0
  by_cases he:verE m=0
  ·rw[he]at hV
   by_cases h16:w<16
   ·have hv:runV m w f=sn0:=by unfold runV runE;rw[if_neg (by omega:¬verE m≠0),if_pos h16];rfl
    have hE:runE m w f=200:=by unfold runE;rw[if_neg (by omega:¬verE m≠0),if_pos h16]
    rw[hv,hE]at hR1
    unfold Sn.av sn0 zIt zCs at *
    dsimp only[qBf]at hR1
    skip
    exact yF
   ·by_cases hf0:f<0
    ·have hv:runV m w f=sn0:=by unfold runV runE;rw[if_neg (by omega:¬verE m≠0),if_neg h16,if_pos hf0];rfl
     have hE:runE m w f=210:=by unfold runE;rw[if_neg (by omega:¬verE m≠0),if_neg h16,if_pos hf0]
     rw[hv,hE]at hR1
     unfold Sn.av sn0 zIt zCs at *
     dsimp only[qBf]at hR1
     skip
     exact yF
    ·have hE:runE m w f=0:=by unfold runE;rw[if_neg (by omega:¬verE m≠0),if_neg h16,if_neg hf0]
     obtain⟨hi,A,hg⟩:=zNt he
     have hD:zAb prog 14 [zCs m,i64 w,i64 f] (runV m w f).av:=by
      have:=zbZ hg hi w.toNat f.toNat (by omega) (by omega) _ rfl
      rw[show ((w.toNat:Nat):Int)=w by omega,show ((f.toNat:Nat):Int)=f by omega]at this
      unfold runV;rw[hE];exact this
     have ho1:=zW2 m w f
     have hv1:=zTv m w f
     rw[hE]at hR1
     generalize runV m w f=s1 at *
     obtain⟨f1,v1,n1,o1,t1⟩:=s1
     dsimp only at ho1 hv1
     have hS:=zPK f1 f1 n1 n1 t1 t1 v1 v1 o1 o1 (by omega) (by omega)
     simp only[decide_true,Bool.and_true]at hS
     unfold Sn.av zIt zCs at *
     dsimp only at hR1 hD
     skip
     exact yF
  ·have hE:runE m w f=verE m:=by unfold runE;rw[if_pos he]
   have hv:runV m w f=sn0:=by unfold runV;rw[hE,if_pos he]
   rw[hv,hE]at hR1
   generalize verE m=e at *
   unfold Sn.av sn0 zIt zCs at *
   dsimp only[qBf]at hR1
   skip
   exact yF
