/- Parts of the proof. -/
import Derived.Test.YtcagoomibpcdlaaGreatDoorMBP
import Derived.Test.YtcagoomibpcdlaaGreatDoorMBQ
set_option maxHeartbeats 16000000
namespace Go.Proofs.YtcagoomibpcdlaaGreatDoor
open _root_.Go.Proofs.Tryz
open Go.Sx Go.Vm
attribute [local irreducible] zAO Program.underlying Ylds zBE alex zB0 zBk awp zAg zB9 zB8 zAU zBj zA6 zDJ zBl zBn zBC zBq zBz zB7 zDQ zBm zBc zBe
theorem zTG(m:Img)(hp:m.pool.length<=2000000)(hc:m.code.length<=2000000): zAg prog 11 [zCm m] (zCm m):=by
 refine zDU func11 rfl ntmps11 results11 rfl ?_
 intro wb St0
 unfold zCm
 repeat' first|apply en_n|apply zAG|apply zAA|apply zAD|apply w0|(refine zBQ ?_)|(refine zT8 ?_)|exact zCh|(with_reducible exact rfl)|(refine RV_c rfl rfl zCt rfl rfl ?_ ?_)|(refine zBr (cs:=[.slice (m.pool.map enCn),.slice (m.code.map enIn)]) zNJ zJQ (PD_d rfl rfl (PD_d rfl rfl zCi)) rfl)|(refine zKH zK6 zDF (by kernel_rfl) rfl)|(refine zKH zK5 zB3 (by kernel_rfl) rfl)|(refine zBs (by kernel_rfl) ?_;apply zAj;exact rfl;exact rfl;exact rfl;(with_reducible exact zCt);exact rfl;exact rfl;exact rfl;exact rfl)|(refine zLl rfl (zCQ rfl) zK6 zDF zWW zWZ (fun d hd=>by obtain⟨c,_,rfl⟩:=qBO.1 hd;rfl) (by rw[qAC];omega))|(refine zLl rfl (zCQ rfl) zK5 zB3 zWV zWY (fun d hd=>by obtain⟨c,_,rfl⟩:=qBO.1 hd;rfl) (by rw[qAC];omega))|refine aBox (hd:=rfl) (hro:=rfl) rfl rfl ?_|(apply zDv (hd:=rfl) (hro:=rfl);(with_reducible exact zJQ))|apply ay (hd:=rfl)|(apply zAC;exact rfl;(with_reducible first|exact zB2|exact zA9))|(apply zAE;exact rfl;(with_reducible first|exact zAx|exact zBg);exact rfl;exact rfl)|(refine w0' ?_)|apply zAQ|refine zAf (by kernel_rfl) (by kernel_rfl) ?_
 all_goals trace_state
def fewF(m:Img): Bool:=(m.pool.take 61).all (fun c=>decide (c.text.length<=300))&&decide (m.pool.length<=60)&&decide (m.code.length<=120)
theorem zaM(m:Img): zAg prog 17 [zCm m] (bl (fewF m)):=by
 refine zAr func17 rfl ntmps17 results17 rfl ?_
 intro wb St0
 unfold zCm
 repeat' first|apply en_n|apply zAG|apply zAA|apply zAD|apply w0|refine aBox (hd:=rfl) (hro:=rfl) rfl rfl ?_|apply ay (hd:=rfl)|exact zAB rfl|apply zAK
 refine zBV (α:=Nat) (fun i=>i<=m.pool.length/\i<=61/\∀(j:Nat) c,j<i->m.pool[j]?=some c->c.text.length<=300) (fun i=>[(1,.ptr 0 0),(3,.d (i64 (i:Int)))]) (fun _=>[.box [.d (.slice (m.pool.map enCn)),.d (.slice (m.code.map enIn))]]) (fun i=>61-i) 0 ⟨qAV _,qAV _,fun j c h=>by omega⟩
  (zAS (Le_all rfl) (zAN rfl rfl zAs) rfl rfl) ?_
 rintro i ⟨hi1,hi2,hi3⟩
 have hfin:(¬i<m.pool.length\/¬i<61)->fewF m=(decide (m.pool.length<=60)&&decide (m.code.length<=120)):=by
  intro h
  unfold fewF
  by_cases h60:m.pool.length<=60
  ·have:(m.pool.take 61).all (fun c=>decide (c.text.length<=300))=true:=by
    rw[qAi (by omega)]
    refine qAX.2 fun c hc=>?_
    obtain⟨j,hj⟩:=qA0.1 hc
    have:=(qAA.1 hj).1
    exact decide_eq_true (hi3 j c (by omega) hj)
   rw[this];rfl
  ·rw[decide_eq_false h60];simp
 repeat' first|apply en_n|apply zAG|apply zAA|apply zAD|apply w0|refine k1u (hd:=rfl) rfl rfl ?_|exact zM4 rfl rfl|(apply zEY;exact rfl;with_reducible exact ustr)|(apply aI (hd:=rfl);(first|exact zCQ rfl|exact zCp rfl rfl rfl|exact Co_nn rfl);exact rfl;(with_reducible exact zDF);exact fun _=>rfl;rotate_left;intro v hv;rotate_right)|apply ay (hd:=rfl)|exact zAF rfl|exact zAB rfl|exact zDB rfl zC4|exact zCK rfl zEO|(apply zBD;exact rfl;(with_reducible first|exact zD4|exact zDk))|exact zEM rfl rfl|exact zGk rfl rfl|exact zGM rfl rfl|refine zBG rfl rfl ?_|exact zAZ rfl rfl|exact zAV rfl rfl|(apply zAC;exact rfl;(with_reducible first|exact zB2|exact zA9))|(apply zAE;exact rfl;(with_reducible first|exact zAx|exact zBg);exact rfl;exact rfl)|refine w1 rfl rfl ?_|(apply gD;exact rfl;exact rfl;all_goals intro hb)|(apply zBa;exact rfl;all_goals intro hb)|refine zAJ rfl ?_|apply zAK|apply zAR|apply zAQ|apply zBX|apply en_r|apply en_e|apply eb_n|apply eb_r|apply eb_e|apply zAT|refine res1 rfl ?_
 ·omega
 ·refine(congrArg bl ?_:bl false=bl (fewF m))
  have hv':m.pool[i]?=some v:=hv
  have:(m.pool.take 61).all (fun c=>decide (c.text.length<=300))=false:=by
   refine List.all_eq_false.2 ⟨v,qA0.2 ⟨i,by rw[List.getElem?_take_of_lt (by omega)];exact hv'⟩,by simp;omega⟩
  unfold fewF;rw[this];rfl
 ·omega
 ·refine⟨i+1,⟨by omega,by omega,fun j c hj hc=>?_⟩,by omega,zAS (Le_all rfl) (zAN rfl rfl zAs) rfl rfl⟩
  rcases qAQ j i with h1|h1
  ·exact hi3 j c h1 hc
  ·have hv':m.pool[i]?=some v:=hv
   rw[show j=i by omega,hv']at hc;injection hc with hc;subst hc;omega
 ·rw[hfin (by omega),decide_eq_false (by omega:¬m.pool.length<=60)];rfl
 ·rw[hfin (by omega),decide_eq_true (by omega:m.pool.length<=60)]
  refine zDR ?_
  rw[Bool.true_and];exact decide_eq_decide.2 (by omega)
 ·rw[hfin (by omega),decide_eq_false (by omega:¬m.pool.length<=60)];rfl
def few3(m:Img)(w f:Int): Bool:=fewF m&&decide (w<=600)&&decide (f<=1500)
theorem zZl(m:Img)(w f:Int): zAg prog 9 [zCm m,i64 w,i64 f] (bl (few3 m w f)):=by
 have hF:=zaM m
 refine zAr func9 rfl ntmps9 results9 rfl ?_
 intro wb St0
 unfold few3
 cases hb:fewF m
 all_goals
  rw[hb]at hF
  unfold zCm at *
  skip
  repeat' first|apply en_n|apply zAG|apply zAA|apply zAD|apply w0|refine k1u (hd:=rfl) rfl rfl ?_|(refine zAd zMb hF (CoLA rfl))|refine aBox (hd:=rfl) (hro:=rfl) rfl rfl ?_|apply ay (hd:=rfl)|exact zAF rfl|exact zAB rfl|exact zGk rfl rfl|exact zAZ rfl rfl|exact zAV rfl rfl|exact zBA rfl zCt rfl rfl rfl|refine w1 rfl rfl ?_|(apply gD;exact rfl;exact rfl;all_goals intro hb)|apply zAQ|apply zAT|refine res1 rfl ?_
  all_goals (apply zDR;first|(simp_all;done)|(simp_all;intros;omega))
end Go.Proofs.YtcagoomibpcdlaaGreatDoor
namespace Go.Proofs.YtcagoomibpcdlaaGreatDoor
open _root_.Go.Proofs.Tryz
open Go.Sx Go.Vm
structure Sn where
 fin:Int
 vals:List Nn
 num:Int
 out:List (List UInt8)
 steps:Int
def Sn.av(s:Sn): D:=zRC s.fin s.vals s.num s.out s.steps
def sn0: Sn:=⟨0,[],0,[],0⟩
def snT(m:Img)(T:St): Sn:=⟨T.fin,valN m T,T.num,T.out,T.steps⟩
def ranT(m:Img)(w f:Int): St:=runS shw m f.toNat (Go.Vm.start w)
def runE(m:Img)(w f:Int): Int:=if verE m≠0 then verE m else if w<16 then 200 else if f<0 then 210 else 0
def runV(m:Img)(w f:Int): Sn:=if runE m w f≠0 then sn0 else snT m (ranT m w f)
structure ImgL(m:Img): Prop where
 pool:m.pool.length<=2000000
 code:m.code.length<=2000000
 text:∀c∈m.pool,c.text.length<=2000000
theorem zLm(m:Img)(hm:ImgL m)(w f:Int)(hw:w<=1048576)(hf:f<=100000): zAg prog 10 [zCm m,i64 w,i64 f] (.tup [(runV m w f).av,i64 (runE m w f)]):=by
 have hV:=zS5 m hm.pool hm.code hm.text
 unfold runV runE
 by_cases h0:verE m=0
 ·rw[if_neg (by omega:¬verE m≠0)]
  rw[h0]at hV
  by_cases h1:w<16
  ·rw[if_pos h1,if_pos (by decide)];exact zVT m w f (.inl h1) hV
  ·rw[if_neg h1]
   obtain⟨n,rfl⟩:∃n:Nat,w=n:=⟨w.toNat,by omega⟩
   by_cases h2:f<0
   ·rw[if_pos h2,if_pos (by decide)];exact zVU m n f ⟨by omega,by omega⟩ h2 hV
   ·rw[if_neg h2,if_neg (by decide)]
    obtain⟨k,rfl⟩:∃k:Nat,f=k:=⟨f.toNat,by omega⟩
    obtain⟨hi,A,hg⟩:=zQk h0
    exact zaE hg hi n k ⟨by omega,by omega⟩ (by omega) hV _ rfl
 ·rw[if_pos h0,if_pos h0];exact zYT m w f _ h0 hV
theorem zSN{m:Img}{w f:Int}(h:few3 m w f=true): ImgL m/\w<=600/\f<=1500/\m.pool.length<=60/\m.code.length<=120:=by
 unfold few3 fewF at h
 simp only[qAZ,decide_eq_true_eq]at h
 obtain⟨⟨⟨⟨h1,h2⟩,h3⟩,h4⟩,h5⟩:=h
 refine⟨⟨by omega,by omega,fun c hc=>?_⟩,h4,h5,h2,h3⟩
 rw[qAi (by omega)]at h1
 have:=qAX.1 h1 c hc
 have:=of_decide_eq_true this
 omega
def img1: Img:=⟨[⟨false,7,[]⟩],[⟨1,0,0⟩,⟨0,0,0⟩]⟩
def img0: Img:=⟨[],[]⟩
theorem zZE: runV img1 16 9=⟨1,[⟨51,[],7,0⟩],0,[],2⟩:=by kernel_rfl
theorem zZF: runE img1 16 9=0:=by kernel_rfl
theorem zZC: runV img1 16 1=⟨3,[],0,[],1⟩:=by kernel_rfl
theorem zZD: runE img1 16 1=0:=by kernel_rfl
theorem zZG: runV img0 16 9=sn0:=by kernel_rfl
theorem zZH: runE img0 16 9=190:=by kernel_rfl
theorem zVq: ImgL img1:=⟨by decide,by decide,fun c hc=>by rw[qAO.1 hc];decide⟩
theorem zZf: ImgL img0:=⟨by decide,by decide,fun c hc=>by cases hc⟩
attribute [local irreducible] zAO Program.underlying Ylds zBE alex zB0 zBk awp zAg zB9 zB8 zAU zBj zA6 zDJ zBl zBn zBC zBq zBz zB7 zDQ zBm zBc zBe
theorem zVE: zAg prog 8 [] (bl true):=by
 have r1:=zLm img1 zVq 16 9 (by decide) (by decide)
 have r2:=zLm img1 zVq 16 1 (by decide) (by decide)
 have r0:=zLm img0 zZf 16 9 (by decide) (by decide)
 rw[zZE,zZF]at r1
 rw[zZC,zZD]at r2
 rw[zZG,zZH]at r0
 replace r1:zAg prog 10 [.agg [.slice [.agg [bl false,i64 7,str []]],.slice [.agg [i64 1,i64 0,i64 0],.agg [i64 0,i64 0,i64 0]]],i64 16,i64 9] (.tup [.agg [i64 1,.slice (([⟨51,[],7,0⟩]:List Nn).map nnD),i64 0,.slice [],i64 2],i64 0]):=r1
 replace r2:zAg prog 10 [.agg [.slice [.agg [bl false,i64 7,str []]],.slice [.agg [i64 1,i64 0,i64 0],.agg [i64 0,i64 0,i64 0]]],i64 16,i64 1] (.tup [.agg [i64 3,.slice [],i64 0,.slice [],i64 1],i64 0]):=r2
 replace r0:zAg prog 10 [.agg [.slice [],.slice []],i64 16,i64 9] (.tup [.agg [i64 0,.slice [],i64 0,.slice [],i64 0],i64 190]):=r0
 refine zAr func8 rfl ntmps8 results8 rfl ?_
 intro wb St0
 repeat' first|apply en_n|apply zAG|apply zAA|apply zAD|apply w0|refine k1u (hd:=rfl) rfl rfl ?_|exact zAi rfl rfl|(refine zAd zGc r1 (CoLA rfl))|(refine zAd zGc r2 (CoLA rfl))|(refine zAd zGc r0 (CoLA rfl))|(refine zBr (cs:=[bl false,i64 7,str []]) zWX zJP (PD_d rfl rfl zCi) rfl)|(refine zBr (cs:=[i64 1,i64 0,i64 0]) zQi zCM (PD_d rfl rfl zCi) rfl)|(refine zBr (cs:=[i64 0,i64 0,i64 0]) zQi zCM zCi rfl)|(refine zBr (cs:=[.slice [],.slice []]) zNJ zJQ zCi rfl)|(refine zBr (cs:=[.slice [.agg [bl false,i64 7,str []]],.slice [.agg [i64 1,i64 0,i64 0],.agg [i64 0,i64 0,i64 0]]]) zNJ zJQ (PD_d rfl rfl (PD_d rfl rfl zCi)) rfl)|(refine zCC zK6 zDF (by kernel_rfl) rfl rfl (zAY rfl zAM) rfl)|(refine zGj zK5 zB3 (by kernel_rfl) rfl rfl (zAY rfl (zAY rfl zAM)) rfl)|(apply zAj;exact rfl;exact rfl;exact rfl;(first|with_reducible exact zCt|with_reducible exact zCd);exact rfl;exact rfl;exact rfl;exact rfl)|(apply aI (hd:=rfl);(first|exact zCQ rfl|exact zCp rfl rfl rfl|exact Co_nn rfl);exact rfl;(with_reducible exact zE2);exact fun _=>rfl;rotate_left;intro v hv;rotate_right)|(apply zDv (hd:=rfl) (hro:=rfl);(with_reducible first|exact zJQ|exact zFd))|apply ay (hd:=rfl)|exact zAF rfl|exact zAB rfl|exact zDB rfl fn_2|exact zCK rfl zEP|exact zBD rfl zEJ|exact zE6 rfl rfl|exact zAZ rfl rfl|exact zAV rfl rfl|exact zAk rfl rfl|(apply zAC;exact rfl;(with_reducible first|exact zC5|exact zHg|exact zHf))|(apply zAE;exact rfl;(with_reducible first|exact zDf|exact zAP|exact zIt);exact rfl;exact rfl)|exact zBA rfl zCt rfl rfl rfl|refine w1 rfl rfl ?_|(apply gD;exact rfl;exact rfl;all_goals intro hb)|(refine w0' ?_)|apply zAQ|apply zAT|refine res1 rfl ?_
 ·exact⟨qBG 0,by decide⟩
 ·rfl
 ·exfalso;injection hv with hv;subst hv;exact hb rfl
end Go.Proofs.YtcagoomibpcdlaaGreatDoor
namespace Go.Proofs.YtcagoomibpcdlaaGreatDoor
open Go.Sx Go.Vm
theorem zNT{m:Img}{w f:Int}(hw:¬w<16)(hf:¬f<0): runE m w f=verE m:=by
 unfold runE;split
 ·rfl
 ·rename_i h;omega
theorem zWz{m:Img}{w f:Int}(hw:¬w<16)(hf:¬f<0)(h:verE m=0): runV m w f=snT m (ranT m w f):=by
 unfold runV;rw[zNT hw hf,if_neg (by omega)]
attribute [local irreducible] zAO Program.underlying Ylds zBE alex zB0 zBk awp zAg zB9 zB8 zAU zBj zA6 zDJ zBl zBn zBC zBq zBz zB7 zDQ zBm zBc zBe
end Go.Proofs.YtcagoomibpcdlaaGreatDoor
