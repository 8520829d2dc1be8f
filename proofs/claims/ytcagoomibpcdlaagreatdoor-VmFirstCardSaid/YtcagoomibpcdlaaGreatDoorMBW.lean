/- Parts of the proof. -/
import Derived.Test.YtcagoomibpcdlaaGreatDoorMBU
import Derived.Test.YtcagoomibpcdlaaGreatDoorMBV
set_option maxHeartbeats 16000000
namespace Go.Proofs.YtcagoomibpcdlaaGreatDoor
open _root_.Go.Proofs.Tryz
open Go.Sx Go.Vm
theorem zL1: zAN prog 15=true:=by kernel_rfl
abbrev zO4(l:List (List UInt8)): D:=.slice (l.map str)
def toNd(n:Nn): Nd:=⟨n.kind,n.text,n.num,n.kids⟩
theorem zJ8(l:List Nn): (D.slice (l.map nnD))=zPT (l.map toNd):=by
 unfold zPT;rw[qBm];rfl
theorem zSz{a b:List Nn}: a.map toNd=b.map toNd↔a=b:=by
 refine⟨fun h=>?_,fun h=>by rw[h]⟩
 refine List.map_inj_right (f:=toNd) (fun x y e=>?_) |>.1 h
 cases x;cases y;simp[toNd]at e;simp[e]
attribute [local irreducible] zAN Program.underlying Ylds zA9 alex zB3 zBf awp zAi zCC zCB zAU zBl zAz zDt zBq zBj zBB zBr zB2 zB8 zD7 zBi zBd zBg
theorem zOo(A B:List (List UInt8))(hL:A.length<=2000000): zAi prog 15 [zO4 A,zO4 B] (bl (decide (A=B))):=by
 refine zAs func15 rfl ntmps15 results15 rfl ?_
 intro wb St0
 repeat' first|apply en_n|apply zAH|apply zAA|apply zAD|apply w0|apply ay (hd:=rfl)|exact zAF rfl|exact zAB rfl|(apply zBI;exact rfl;(with_reducible first|exact zHO|exact zHO))|exact zIG rfl rfl|(apply zBT;exact rfl;all_goals intro hb)|apply zAL|apply zAS|apply zAQ|apply en_r|apply zAR|refine res1 rfl ?_
 ·have:A≠B:=fun e=>by subst e;omega
  rw[decide_eq_false this]
 ·have hlen:A.length=B.length:=by omega
  refine zBW (α:=Nat) (fun i=>i<=A.length/\A.take i=B.take i) (fun i=>[(0,.d (zO4 A)),(1,.d (zO4 B)),(5,.d (i64 (i:Int)))]) (fun _=>[]) (fun i=>A.length-i) 0 ⟨qAX _,rfl⟩
   (zAT (Le_all rfl) zAt rfl rfl) ?_
  rintro i ⟨hi1,hi2⟩
  repeat' first|apply en_n|apply zAH|apply zAA|apply zAD|apply w0|exact zSB rfl rfl|(apply aI (hd:=rfl);(first|exact zCW rfl|exact zC3 rfl rfl rfl|exact Co_nn rfl);exact rfl;(with_reducible first|exact zFg|exact zFg);exact fun _=>rfl;rotate_left;intro v hv;rotate_right)|apply ay (hd:=rfl)|exact zAF rfl|exact zAB rfl|exact zCb rfl zDk|(apply zBI;exact rfl;(with_reducible first|exact zHO|exact zHO))|exact zEw rfl rfl|refine zBE rfl rfl ?_|(apply zBT;exact rfl;all_goals intro hb)|apply zAL|apply zAS|apply zAQ|apply zBc|refine zAj (by kernel_rfl) (by kernel_rfl) ?_|apply en_r|apply en_e|apply eb_n|apply eb_r|apply eb_e|apply zAR|refine res1 rfl ?_
  ·omega
  ·omega
  ·rename_i b1 b2 u hu
   have:A≠B:=by rintro rfl;rw[hu]at hv;exact hb (qA8 hv)
   rw[decide_eq_false this]
  ·omega
  ·rename_i b1 b2 u hu
   obtain rfl:u=v:=Decidable.not_not.1 hb
   exact⟨i+1,⟨by omega,zGP (i:=i) hi2 hu hv⟩,by omega,zAT (Le_all rfl) zAt rfl rfl⟩
  ·have h1:=hi2
   rw[show i=A.length by omega,qA4,hlen,qA4]at h1
   rw[decide_eq_true h1]
theorem zUm(A B:List Nn)(hL:A.length<=2000000): zAi prog 26 [.slice (A.map nnD),.slice (B.map nnD)] (bl (decide (A=B))):=by
 rw[zJ8,zJ8]
 have:=zXj (A.map toNd) (B.map toNd) (by rw[qAC];exact hL)
 rwa [decide_eq_decide.2 zSz]at this
theorem zSK(b2 b6:Bool)(f f' n n' s s':Int)(A B:List Nn)(O P:List (List UInt8))(h2:zAi prog 26 [.slice (A.map nnD),.slice (B.map nnD)] (bl b2))(h6:zAi prog 15 [zO4 O,zO4 P] (bl b6)):
  zAi prog 13 [zIU f A n O s,zIU f' B n' P s'] (bl (decide (f=f')&&b2&&decide (n=n')&&b6)):=by
 refine zAs func13 rfl ntmps13 results13 rfl ?_
 intro wb St0
 unfold zIU
 cases b2 <;> cases b6
 all_goals
  repeat' first|apply en_n|apply zAH|apply zAA|apply zAD|apply w0|(apply k1u (hd:=rfl);exact rfl;exact rfl)|(refine zAb zXA h2 (zAY rfl (zAY rfl zAM)))|(refine zAb zL1 h6 (zAY rfl (zAY rfl zAM)))|(apply aBox (hd:=rfl) (hro:=rfl);exact rfl;exact rfl)|apply ay (hd:=rfl)|exact zAF rfl|exact zAB rfl|exact zFN rfl rfl|exact zAa rfl rfl|exact zAX rfl rfl|(apply zAC;exact rfl;(with_reducible first|exact zCa|exact zFi|exact zLK|exact zGO))|(apply zAE;exact rfl;(with_reducible first|exact zCr|exact zFa|exact zGn|exact zD1|exact zFa);exact rfl;exact rfl)|refine w1 rfl rfl ?_|(apply gD;exact rfl;exact rfl;all_goals intro hb)|apply zAQ|apply zAR|refine res1 rfl ?_
  all_goals (apply zDi;simp_all)
theorem zSJ(f f' n n' s s':Int)(A B:List Nn)(O P:List (List UInt8))(hA:A.length<=2000000)(hO:O.length<=2000000):
  zAi prog 13 [zIU f A n O s,zIU f' B n' P s'] (bl (decide (f=f')&&decide (A=B)&&decide (n=n')&&decide (O=P))) :=
 zSK _ _ _ _ _ _ _ _ _ _ _ _ (zUm A B hA) (zOo O P hO)
theorem zSV(m:Img)(hp:m.pool.length<=2000000)(hc:m.code.length<=2000000): zAi prog 11 [zDH m] (zDH m):=by
 refine zED func11 rfl ntmps11 results11 rfl ?_
 intro wb St0
 unfold zDH
 repeat' first|apply en_n|apply zAH|apply zAA|apply zAD|apply w0|(refine zBu ?_)|(refine zTM ?_)|exact zDC|(with_reducible exact rfl)|(refine RV_c rfl rfl zCo rfl rfl ?_ ?_)|(refine zBY (cs:=[.slice (m.pool.map enCn),.slice (m.code.map enIn)]) zH0 zE5 (PD_d rfl rfl (PD_d rfl rfl zCf)) rfl)|(refine zJn zEp zCd (by kernel_rfl) rfl)|(refine zJn zGj zBh (by kernel_rfl) rfl)|(refine zBv (by kernel_rfl) ?_;apply zAh;exact rfl;exact rfl;exact rfl;(with_reducible exact zCo);exact rfl;exact rfl;exact rfl;exact rfl)|(refine zJq rfl (zCW rfl) zEp zCd zKX zKY (fun d hd=>by obtain⟨c,_,rfl⟩:=qBE.1 hd;rfl) (by rw[qAC];omega))|(refine zJq rfl (zCW rfl) zGj zBh zVo zVq (fun d hd=>by obtain⟨c,_,rfl⟩:=qBE.1 hd;rfl) (by rw[qAC];omega))|(apply aBox (hd:=rfl) (hro:=rfl);exact rfl;exact rfl)|(apply zDI (hd:=rfl) (hro:=rfl);(with_reducible exact zE5))|apply ay (hd:=rfl)|(apply zAC;exact rfl;(with_reducible first|exact zCM|exact zBD))|(apply zAE;exact rfl;(with_reducible first|exact zAv|exact zBo);exact rfl;exact rfl)|(refine w0' ?_)|apply zAQ|refine zAj (by kernel_rfl) (by kernel_rfl) ?_
 all_goals trace_state
def fewF(m:Img): Bool:=(m.pool.take 61).all (fun c=>decide (c.text.length<=300))&&decide (m.pool.length<=60)&&decide (m.code.length<=120)
theorem zZW(m:Img): zAi prog 17 [zDH m] (bl (fewF m)):=by
 refine zAs func17 rfl ntmps17 results17 rfl ?_
 intro wb St0
 unfold zDH
 repeat' first|apply en_n|apply zAH|apply zAA|apply zAD|apply w0|(apply aBox (hd:=rfl) (hro:=rfl);exact rfl;exact rfl)|apply ay (hd:=rfl)|exact zAB rfl|apply zAL
 refine zBW (α:=Nat) (fun i=>i<=m.pool.length/\i<=61/\∀(j:Nat) c,j<i->m.pool[j]?=some c->c.text.length<=300) (fun i=>[(1,.ptr 0 0),(3,.d (i64 (i:Int)))]) (fun _=>[.box [.d (.slice (m.pool.map enCn)),.d (.slice (m.code.map enIn))]]) (fun i=>61-i) 0 ⟨qAX _,qAX _,fun j c h=>by omega⟩
  (zAT (Le_all rfl) (zAO rfl rfl zAt) rfl rfl) ?_
 rintro i ⟨hi1,hi2,hi3⟩
 have hfin:(¬i<m.pool.length\/¬i<61)->fewF m=(decide (m.pool.length<=60)&&decide (m.code.length<=120)):=by
  intro h
  unfold fewF
  by_cases h60:m.pool.length<=60
  ·have:(m.pool.take 61).all (fun c=>decide (c.text.length<=300))=true:=by
    rw[qAi (by omega)]
    refine qAV.2 fun c hc=>?_
    obtain⟨j,hj⟩:=qAu.1 hc
    have:=(qAA.1 hj).1
    exact decide_eq_true (hi3 j c (by omega) hj)
   rw[this];rfl
  ·rw[decide_eq_false h60];simp
 repeat' first|apply en_n|apply zAH|apply zAA|apply zAD|apply w0|(apply k1u (hd:=rfl);exact rfl;exact rfl)|exact zMV rfl rfl|(apply zEh;exact rfl;with_reducible exact ustr)|(apply aI (hd:=rfl);(first|exact zCW rfl|exact zC3 rfl rfl rfl|exact Co_nn rfl);exact rfl;(with_reducible exact zCd);exact fun _=>rfl;rotate_left;intro v hv;rotate_right)|apply ay (hd:=rfl)|exact zAF rfl|exact zAB rfl|exact zDc rfl zCp|exact zCb rfl zDk|(apply zBI;exact rfl;(with_reducible first|exact zDz|exact zEd))|exact zEw rfl rfl|exact zIY rfl rfl|exact zGG rfl rfl|refine zBE rfl rfl ?_|exact zAa rfl rfl|exact zAX rfl rfl|(apply zAC;exact rfl;(with_reducible first|exact zCM|exact zBD))|(apply zAE;exact rfl;(with_reducible first|exact zAv|exact zBo);exact rfl;exact rfl)|refine w1 rfl rfl ?_|(apply gD;exact rfl;exact rfl;all_goals intro hb)|(apply zBT;exact rfl;all_goals intro hb)|refine zAJ rfl ?_|apply zAL|apply zAS|apply zAQ|apply zBc|apply en_r|apply en_e|apply eb_n|apply eb_r|apply eb_e|apply zAR|refine res1 rfl ?_
 ·omega
 ·refine(congrArg bl ?_:bl false=bl (fewF m))
  have hv':m.pool[i]?=some v:=hv
  have:(m.pool.take 61).all (fun c=>decide (c.text.length<=300))=false:=by
   refine List.all_eq_false.2 ⟨v,qAu.2 ⟨i,by rw[List.getElem?_take_of_lt (by omega)];exact hv'⟩,by simp;omega⟩
  unfold fewF;rw[this];rfl
 ·omega
 ·refine⟨i+1,⟨by omega,by omega,fun j c hj hc=>?_⟩,by omega,zAT (Le_all rfl) (zAO rfl rfl zAt) rfl rfl⟩
  rcases qAR j i with h1|h1
  ·exact hi3 j c h1 hc
  ·have hv':m.pool[i]?=some v:=hv
   rw[show j=i by omega,hv']at hc;injection hc with hc;subst hc;omega
 ·rw[hfin (by omega),decide_eq_false (by omega:¬m.pool.length<=60)];rfl
 ·rw[hfin (by omega),decide_eq_true (by omega:m.pool.length<=60)]
  refine zDi ?_
  rw[Bool.true_and];exact decide_eq_decide.2 (by omega)
 ·rw[hfin (by omega),decide_eq_false (by omega:¬m.pool.length<=60)];rfl
def few3(m:Img)(w f:Int): Bool:=fewF m&&decide (w<=600)&&decide (f<=1500)
theorem zYw(m:Img)(w f:Int): zAi prog 9 [zDH m,i64 w,i64 f] (bl (few3 m w f)):=by
 have hF:=zZW m
 refine zAs func9 rfl ntmps9 results9 rfl ?_
 intro wb St0
 unfold few3
 cases hb:fewF m
 all_goals
  rw[hb]at hF
  unfold zDH at *
  skip
  repeat' first|apply en_n|apply zAH|apply zAA|apply zAD|apply w0|(apply k1u (hd:=rfl);exact rfl;exact rfl)|(refine zAb zL2 hF (zAY rfl zAM))|(apply aBox (hd:=rfl) (hro:=rfl);exact rfl;exact rfl)|apply ay (hd:=rfl)|exact zAF rfl|exact zAB rfl|exact zIY rfl rfl|exact zAa rfl rfl|exact zAX rfl rfl|exact zA4 rfl zCo rfl rfl rfl|refine w1 rfl rfl ?_|(apply gD;exact rfl;exact rfl;all_goals intro hb)|apply zAQ|apply zAR|refine res1 rfl ?_
  all_goals (apply zDi;first|(simp_all;done)|(simp_all;intros;omega))
end Go.Proofs.YtcagoomibpcdlaaGreatDoor
namespace Go.Proofs.YtcagoomibpcdlaaGreatDoor
open _root_.Go.Proofs.Tryz
open Go.Sx Go.Vm
structure Sn where
 fin:Int
 vals:List Nn
 num:Int
 out:List (List UInt8)
 steps:Int
def Sn.av(s:Sn): D:=zIU s.fin s.vals s.num s.out s.steps
def sn0: Sn:=⟨0,[],0,[],0⟩
def snT(m:Img)(T:St): Sn:=⟨T.fin,valN m T,T.num,T.out,T.steps⟩
def ranT(m:Img)(w f:Int): St:=runS shw m f.toNat (Go.Vm.start w)
def runE(m:Img)(w f:Int): Int:=if verE m≠0 then verE m else if w<16 then 200 else if f<0 then 210 else 0
def runV(m:Img)(w f:Int): Sn:=if runE m w f≠0 then sn0 else snT m (ranT m w f)
structure ImgL(m:Img): Prop where
 pool:m.pool.length<=2000000
 code:m.code.length<=2000000
 text:∀c∈m.pool,c.text.length<=2000000
theorem zI7(shw:Int->List UInt8)(m:Img): ∀(f:Nat) (s:St),(runS shw m f s).out.length<=s.out.length+f
 |0,s=>by rw[runS];split <;> exact qAN _
 |f+1,s=>by
  rw[runS];split
  ·have h1:=zI7 shw m f (Go.Vm.step shw m { s with steps:=s.steps+1 })
   have h2:(Go.Vm.step shw m { s with steps:=s.steps+1 }).out.length<=s.out.length+1:=(zQL shw m { s with steps:=s.steps+1 }).out
   omega
  ·omega
theorem zWQ(m:Img)(w f:Int): (ranT m w f).out.length<=f.toNat:=by
 have:=zI7 shw m f.toNat (Go.Vm.start w)
 have h0:(Go.Vm.start w).out.length=0:=rfl
 unfold ranT;omega
theorem zNq(m:Img)(w f:Int): (runV m w f).out.length<=f.toNat:=by
 unfold runV;split
 ·exact qAX _
 ·exact zWQ m w f
theorem zLZ(m:Img)(w f:Int): (runV m w f).vals.length<=4000:=by
 unfold runV;split
 ·exact qAX _
 ·show (valN m _).length<=4000
  unfold valN;split
  ·rename_i h;exact h.2
  ·exact qAX _
theorem zIH(m:Img)(hm:ImgL m)(w f:Int)(hw:w<=1048576)(hf:f<=100000): zAi prog 10 [zDH m,i64 w,i64 f] (.tup [(runV m w f).av,i64 (runE m w f)]):=by
 have hV:=zSI m hm.pool hm.code hm.text
 unfold runV runE
 by_cases h0:verE m=0
 ·rw[if_neg (by omega:¬verE m≠0)]
  rw[h0]at hV
  by_cases h1:w<16
  ·rw[if_pos h1,if_pos (by decide)];exact zUn m w f (.inl h1) hV
  ·rw[if_neg h1]
   obtain⟨n,rfl⟩:∃n:Nat,w=n:=⟨w.toNat,by omega⟩
   by_cases h2:f<0
   ·rw[if_pos h2,if_pos (by decide)];exact zUo m n f ⟨by omega,by omega⟩ h2 hV
   ·rw[if_neg h2,if_neg (by decide)]
    obtain⟨k,rfl⟩:∃k:Nat,f=k:=⟨f.toNat,by omega⟩
    obtain⟨hi,A,hg⟩:=zHV h0
    exact zZP hg hi n k ⟨by omega,by omega⟩ (by omega) hV _ rfl
 ·rw[if_pos h0,if_pos h0];exact zXk m w f _ h0 hV
theorem zRc{m:Img}{w f:Int}(h:few3 m w f=true): ImgL m/\w<=600/\f<=1500/\m.pool.length<=60/\m.code.length<=120:=by
 unfold few3 fewF at h
 simp only[qAZ,decide_eq_true_eq]at h
 obtain⟨⟨⟨⟨h1,h2⟩,h3⟩,h4⟩,h5⟩:=h
 refine⟨⟨by omega,by omega,fun c hc=>?_⟩,h4,h5,h2,h3⟩
 rw[qAi (by omega)]at h1
 have:=qAV.1 h1 c hc
 have:=of_decide_eq_true this
 omega
def img1: Img:=⟨[⟨false,7,[]⟩],[⟨1,0,0⟩,⟨0,0,0⟩]⟩
def img0: Img:=⟨[],[]⟩
theorem zYW: runV img1 16 9=⟨1,[⟨51,[],7,0⟩],0,[],2⟩:=by kernel_rfl
theorem zYX: runE img1 16 9=0:=by kernel_rfl
theorem zYU: runV img1 16 1=⟨3,[],0,[],1⟩:=by kernel_rfl
theorem zYV: runE img1 16 1=0:=by kernel_rfl
theorem zYY: runV img0 16 9=sn0:=by kernel_rfl
theorem zYZ: runE img0 16 9=190:=by kernel_rfl
theorem zU9: ImgL img1:=⟨by decide,by decide,fun c hc=>by rw[qAO.1 hc];decide⟩
theorem zYs: ImgL img0:=⟨by decide,by decide,fun c hc=>by cases hc⟩
attribute [local irreducible] zAN Program.underlying Ylds zA9 alex zB3 zBf awp zAi zCC zCB zAU zBl zAz zDt zBq zBj zBB zBr zB2 zB8 zD7 zBi zBd zBg
theorem zOc: zAi prog 8 [] (bl true):=by
 have r1:=zIH img1 zU9 16 9 (by decide) (by decide)
 have r2:=zIH img1 zU9 16 1 (by decide) (by decide)
 have r0:=zIH img0 zYs 16 9 (by decide) (by decide)
 rw[zYW,zYX]at r1
 rw[zYU,zYV]at r2
 rw[zYY,zYZ]at r0
 replace r1:zAi prog 10 [.agg [.slice [.agg [bl false,i64 7,str []]],.slice [.agg [i64 1,i64 0,i64 0],.agg [i64 0,i64 0,i64 0]]],i64 16,i64 9] (.tup [.agg [i64 1,.slice (([⟨51,[],7,0⟩]:List Nn).map nnD),i64 0,.slice [],i64 2],i64 0]):=r1
 replace r2:zAi prog 10 [.agg [.slice [.agg [bl false,i64 7,str []]],.slice [.agg [i64 1,i64 0,i64 0],.agg [i64 0,i64 0,i64 0]]],i64 16,i64 1] (.tup [.agg [i64 3,.slice [],i64 0,.slice [],i64 1],i64 0]):=r2
 replace r0:zAi prog 10 [.agg [.slice [],.slice []],i64 16,i64 9] (.tup [.agg [i64 0,.slice [],i64 0,.slice [],i64 0],i64 190]):=r0
 refine zAs func8 rfl ntmps8 results8 rfl ?_
 intro wb St0
 repeat' first|apply en_n|apply zAH|apply zAA|apply zAD|apply w0|(apply k1u (hd:=rfl);exact rfl;exact rfl)|exact zAk rfl rfl|(refine zAb zDG r1 (zAY rfl (zAY rfl (zAY rfl zAM))))|(refine zAb zDG r2 (zAY rfl (zAY rfl (zAY rfl zAM))))|(refine zAb zDG r0 (zAY rfl (zAY rfl (zAY rfl zAM))))|(refine zBY (cs:=[bl false,i64 7,str []]) zVp zI3 (PD_d rfl rfl zCf) rfl)|(refine zBY (cs:=[i64 1,i64 0,i64 0]) zGN zBw (PD_d rfl rfl zCf) rfl)|(refine zBY (cs:=[i64 0,i64 0,i64 0]) zGN zBw zCf rfl)|(refine zBY (cs:=[.slice [],.slice []]) zH0 zE5 zCf rfl)|(refine zBY (cs:=[.slice [.agg [bl false,i64 7,str []]],.slice [.agg [i64 1,i64 0,i64 0],.agg [i64 0,i64 0,i64 0]]]) zH0 zE5 (PD_d rfl rfl (PD_d rfl rfl zCf)) rfl)|(refine zCI zEp zCd (by kernel_rfl) rfl rfl (zAY rfl zAM) rfl)|(refine zFX zGj zBh (by kernel_rfl) rfl rfl (zAY rfl (zAY rfl zAM)) rfl)|(apply zAh;exact rfl;exact rfl;exact rfl;(first|with_reducible exact zCo|with_reducible exact zCE);exact rfl;exact rfl;exact rfl;exact rfl)|(apply aI (hd:=rfl);(first|exact zCW rfl|exact zC3 rfl rfl rfl|exact Co_nn rfl);exact rfl;(with_reducible exact zDP);exact fun _=>rfl;rotate_left;intro v hv;rotate_right)|(apply zDI (hd:=rfl) (hro:=rfl);(with_reducible first|exact zE5|exact zD8))|apply ay (hd:=rfl)|exact zAF rfl|exact zAB rfl|exact zDc rfl fn_2|exact zCb rfl zD1|exact zBI rfl zDO|exact zFN rfl rfl|exact zAa rfl rfl|exact zAX rfl rfl|exact zAg rfl rfl|(apply zAC;exact rfl;(with_reducible first|exact zCa|exact zFi|exact zE7))|(apply zAE;exact rfl;(with_reducible first|exact zCr|exact zAP|exact zGn);exact rfl;exact rfl)|exact zA4 rfl zCo rfl rfl rfl|refine w1 rfl rfl ?_|(apply gD;exact rfl;exact rfl;all_goals intro hb)|(refine w0' ?_)|apply zAQ|apply zAR|refine res1 rfl ?_
 ·exact⟨qA6 0,by decide⟩
 ·rfl
 ·exfalso;injection hv with hv;subst hv;exact hb rfl
end Go.Proofs.YtcagoomibpcdlaaGreatDoor
namespace Go.Proofs.YtcagoomibpcdlaaGreatDoor
open Go.Sx Go.Vm
theorem zKh{m:Img}{w f:Int}(hw:¬w<16)(hf:¬f<0): runE m w f=verE m:=by
 unfold runE;split
 ·rfl
 ·rename_i h;omega
theorem zMu{m:Img}{w f:Int}(hw:¬w<16)(hf:¬f<0)(h:verE m=0): runV m w f=snT m (ranT m w f):=by
 unfold runV;rw[zKh hw hf,if_neg (by omega)]
attribute [local irreducible] zAN Program.underlying Ylds zA9 alex zB3 zBf awp zAi zCC zCB zAU zBl zAz zDt zBq zBj zBB zBr zB2 zB8 zD7 zBi zBd zBg
end Go.Proofs.YtcagoomibpcdlaaGreatDoor
