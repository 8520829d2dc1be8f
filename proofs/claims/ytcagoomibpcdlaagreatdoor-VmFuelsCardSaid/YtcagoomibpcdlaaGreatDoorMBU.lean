/- Texts of this claim, merged: VmEA, VmEB. -/
import Derived.Test.YtcagoomibpcdlaaGreatDoorMAC
import Derived.Test.YtcagoomibpcdlaaGreatDoorMAD
import Derived.Test.YtcagoomibpcdlaaGreatDoorMBS
import Derived.Test.YtcagoomibpcdlaaGreatDoorMBT
namespace Go.Proofs.YtcagoomibpcdlaaGreatDoor
open Go.Sx Go.Vm
theorem zLZ: zAQ Tryz.prog 15=true:=by kernel_rfl
abbrev zOT(l:List (List UInt8)): D:=.slice (l.map str)
def toNd(n:Nn): Nd:=⟨n.kind,n.text,n.num,n.kids⟩
theorem zJn(l:List Nn): (D.slice (l.map nnD))=zOr (l.map toNd):=by
 unfold zOr;rw[List.map_map];rfl
theorem zSM{a b:List Nn}: a.map toNd=b.map toNd↔a=b:=by
 refine⟨fun h=>?_,fun h=>by rw[h]⟩
 refine List.map_inj_right (f:=toNd) (fun x y e=>?_) |>.1 h
 cases x;cases y;simp[toNd]at e;simp[e]
attribute [local irreducible] zAQ Program.underlying Ylds zBD alex zCA zBi awp zAp zCI zCH zAW zBw zA5 zD4 zB0 zBp zBF zBv zB9 zCE zES zBn zBm zBs
theorem zOD(A B:List (List UInt8))(hL:A.length≤2000000): zAp Tryz.prog 15 [zOT A,zOT B] (bl (decide (A=B))):=by
 refine zA8 Tryz.func15 rfl Tryz.ntmps15 Tryz.results15 rfl ?_
 intro wb St0
 repeat' first|apply en_n|apply zAK|apply zAA|apply zAF|apply w0|apply ay (hd:=rfl)|exact zAJ rfl|exact zAD rfl|(apply zBZ;exact rfl;(with_reducible first|exact zG9|exact zG9))|exact zHz rfl rfl|(apply zCO;exact rfl;(intro hb);rotate_left;(intro hb);rotate_right)|apply zAO|apply zAU|apply zAT|apply en_r|apply zAY|(apply res1;exact rfl)
 ·have:A≠B:=fun e=>by subst e;omega
  rw[decide_eq_false this]
 ·have hlen:A.length=B.length:=by omega
  refine zBo (α:=Nat) (fun i=>i≤A.length∧A.take i=B.take i) (fun i=>[(0,.d (zOT A)),(1,.d (zOT B)),(5,.d (i64 (i:Int)))]) (fun _=>[]) (fun i=>A.length-i) 0 ⟨Nat.zero_le _,rfl⟩
   (zAV (zAI rfl (zAI rfl (zAI rfl zAd))) zA7 rfl rfl) ?_
  rintro i ⟨hi1,hi2⟩
  repeat' first|apply en_n|apply zAK|apply zAA|apply zAF|apply w0|exact zRV rfl rfl|(apply aI (hd:=rfl);(first|exact zCw rfl|exact zDn rfl rfl rfl|exact Co_nn rfl);exact rfl;(with_reducible first|exact zFN|exact zFN);exact fun _=>rfl;rotate_left;intro v hv;rotate_right)|apply ay (hd:=rfl)|exact zAJ rfl|exact zAD rfl|(apply zC3;exact rfl;(with_reducible exact zFg))|(apply zBZ;exact rfl;(with_reducible first|exact zG9|exact zG9))|exact zGm rfl rfl|(apply zBL;exact rfl;exact rfl)|(apply zCO;exact rfl;(intro hb);rotate_left;(intro hb);rotate_right)|apply zAO|apply zAU|apply zAT|apply zBu|refine zAr (by kernel_rfl) (by kernel_rfl) ?_|apply en_r|apply en_e|apply eb_n|apply eb_r|apply eb_e|apply zAY|(apply res1;exact rfl)
  ·omega
  ·omega
  ·rename_i b1 b2 u hu
   have:A≠B:=by rintro rfl;rw[hu]at hv;exact hb (Option.some.inj hv)
   rw[decide_eq_false this]
  ·omega
  ·rename_i b1 b2 u hu
   obtain rfl:u=v:=Decidable.not_not.1 hb
   exact⟨i+1,⟨by omega,zF4 (i:=i) hi2 hu hv⟩,by omega,zAV (zAI rfl (zAI rfl (zAI rfl zAd))) zA7 rfl rfl⟩
  ·have h1:=hi2
   rw[show i=A.length by omega,List.take_length,hlen,List.take_length]at h1
   rw[decide_eq_true h1]
theorem zT4(A B:List Nn)(hL:A.length≤2000000): zAp Tryz.prog 26 [.slice (A.map nnD),.slice (B.map nnD)] (bl (decide (A=B))):=by
 rw[zJn,zJn]
 have:=zWs (A.map toNd) (B.map toNd) (by rw[List.length_map];exact hL)
 rwa [decide_eq_decide.2 zSM]at this
theorem zRg(b2 b6:Bool)(f f' n n' s s':Int)(A B:List Nn)(O P:List (List UInt8))(h2:zAp Tryz.prog 26 [.slice (A.map nnD),.slice (B.map nnD)] (bl b2))(h6:zAp Tryz.prog 15 [zOT O,zOT P] (bl b6)):
  zAp Tryz.prog 13 [zJd f A n O s,zJd f' B n' P s'] (bl (decide (f=f')&&b2&&decide (n=n')&&b6)):=by
 refine zA8 Tryz.func13 rfl Tryz.ntmps13 Tryz.results13 rfl ?_
 intro wb St0
 unfold zJd
 cases b2 <;> cases b6
 all_goals
  repeat' first|apply en_n|apply zAK|apply zAA|apply zAF|apply w0|(apply k1u (hd:=rfl);exact rfl;exact rfl)|(refine zAh zWH h2 (zAa rfl (zAa rfl zAR)))|(refine zAh zLZ h6 (zAa rfl (zAa rfl zAR)))|(apply aBox (hd:=rfl) (hro:=rfl);exact rfl;exact rfl)|apply ay (hd:=rfl)|exact zAJ rfl|exact zAD rfl|exact zGM rfl rfl|exact zAj rfl rfl|exact zAc rfl rfl|(apply zAC;exact rfl;(with_reducible first|exact zCr|exact zHF|exact zKx|exact zF2))|(apply zAG;exact rfl;(with_reducible first|exact zDD|exact zFK|exact zIL|exact zFh|exact zFK);exact rfl;exact rfl)|(apply w1;exact rfl;exact rfl)|(apply gD;exact rfl;exact rfl;(intro hb);rotate_left;(intro hb);rotate_right)|apply zAT|apply zAY|(apply res1;exact rfl)
  all_goals (apply zEa;simp_all)
theorem zRf(f f' n n' s s':Int)(A B:List Nn)(O P:List (List UInt8))(hA:A.length≤2000000)(hO:O.length≤2000000):
  zAp Tryz.prog 13 [zJd f A n O s,zJd f' B n' P s'] (bl (decide (f=f')&&decide (A=B)&&decide (n=n')&&decide (O=P))) :=
 zRg _ _ _ _ _ _ _ _ _ _ _ _ (zT4 A B hA) (zOD O P hO)
theorem zRr(m:Img)(hp:m.pool.length≤2000000)(hc:m.code.length≤2000000): zAp Tryz.prog 11 [zDY m] (zDY m):=by
 refine zDy Tryz.func11 rfl Tryz.ntmps11 Tryz.results11 rfl ?_
 intro wb St0
 unfold zDY
 repeat' first|apply en_n|apply zAK|apply zAA|apply zAF|apply w0|(refine zBq ?_)|(refine zSj ?_)|exact zC6|(with_reducible exact rfl)|(refine RV_c rfl rfl zDG rfl rfl ?_ ?_)|(refine zCX (cs:=[.slice (m.pool.map enCn),.slice (m.code.map enIn)]) zMI zIl (PD_d rfl rfl (PD_d rfl rfl zDR)) rfl)|(refine zRX zKE zD7 (by kernel_rfl) rfl)|(refine zRX zKD zB6 (by kernel_rfl) rfl)|(refine zBr (by kernel_rfl) ?_;apply zAl;exact rfl;exact rfl;exact rfl;(with_reducible exact zDG);exact rfl;exact rfl;exact rfl;exact rfl)|(refine zRc rfl (zCw rfl) zKE zD7 zU1 zU4 (fun d hd=>by obtain⟨c,_,rfl⟩:=List.mem_map.1 hd;rfl) (by rw[List.length_map];omega))|(refine zRc rfl (zCw rfl) zKD zB6 zU0 zU3 (fun d hd=>by obtain⟨c,_,rfl⟩:=List.mem_map.1 hd;rfl) (by rw[List.length_map];omega))|(apply aBox (hd:=rfl) (hro:=rfl);exact rfl;exact rfl)|(apply zDs (hd:=rfl) (hro:=rfl);(with_reducible exact zIl))|apply ay (hd:=rfl)|(apply zAC;exact rfl;(with_reducible first|exact zCi|exact zBE))|(apply zAG;exact rfl;(with_reducible first|exact zA0|exact zBk);exact rfl;exact rfl)|(refine w0' ?_)|apply zAT|refine zAr (by kernel_rfl) (by kernel_rfl) ?_
 all_goals trace_state
def fewF(m:Img): Bool:=(m.pool.take 61).all (fun c=>decide (c.text.length≤300))&&decide (m.pool.length≤60)&&decide (m.code.length≤120)
theorem zYl(m:Img): zAp Tryz.prog 17 [zDY m] (bl (fewF m)):=by
 refine zA8 Tryz.func17 rfl Tryz.ntmps17 Tryz.results17 rfl ?_
 intro wb St0
 unfold zDY
 repeat' first|apply en_n|apply zAK|apply zAA|apply zAF|apply w0|(apply aBox (hd:=rfl) (hro:=rfl);exact rfl;exact rfl)|apply ay (hd:=rfl)|exact zAD rfl|apply zAO
 refine zBo (α:=Nat) (fun i=>i≤m.pool.length∧i≤61∧∀(j:Nat) c,j<i→m.pool[j]?=some c→c.text.length≤300) (fun i=>[(1,.ptr 0 0),(3,.d (i64 (i:Int)))]) (fun _=>[.box [.d (.slice (m.pool.map enCn)),.d (.slice (m.code.map enIn))]]) (fun i=>61-i) 0 ⟨Nat.zero_le _,Nat.zero_le _,fun j c h=>by omega⟩
  (zAV (zAI rfl (zAI rfl zAd)) (zAP rfl rfl zA7) rfl rfl) ?_
 rintro i ⟨hi1,hi2,hi3⟩
 have hfin:(¬i<m.pool.length∨¬i<61)→fewF m=(decide (m.pool.length≤60)&&decide (m.code.length≤120)):=by
  intro h
  unfold fewF
  by_cases h60:m.pool.length≤60
  ·have:(m.pool.take 61).all (fun c=>decide (c.text.length≤300))=true:=by
    rw[List.take_of_length_le (by omega)]
    refine List.all_eq_true.2 fun c hc=>?_
    obtain⟨j,hj⟩:=List.mem_iff_getElem?.1 hc
    have:=(List.getElem?_eq_some_iff.1 hj).1
    exact decide_eq_true (hi3 j c (by omega) hj)
   rw[this];rfl
  ·rw[decide_eq_false h60];simp
 repeat' first|apply en_n|apply zAK|apply zAA|apply zAF|apply w0|(apply k1u (hd:=rfl);exact rfl;exact rfl)|(apply zL2;exact rfl;exact rfl;first|assumption|omega)|(apply zFx;exact rfl;with_reducible exact ustr)|(apply aI (hd:=rfl);(first|exact zCw rfl|exact zDn rfl rfl rfl|exact Co_nn rfl);exact rfl;(with_reducible exact zD7);exact fun _=>rfl;rotate_left;intro v hv;rotate_right)|apply ay (hd:=rfl)|exact zAJ rfl|exact zAD rfl|(apply zFd;exact rfl;(with_reducible exact zEM))|(apply zC3;exact rfl;(with_reducible exact zFg))|(apply zBZ;exact rfl;(with_reducible first|exact zF3|exact zFf))|exact zGm rfl rfl|exact zJi rfl rfl|exact zH0 rfl rfl|(apply zBL;exact rfl;exact rfl)|exact zAj rfl rfl|exact zAc rfl rfl|(apply zAC;exact rfl;(with_reducible first|exact zCi|exact zBE))|(apply zAG;exact rfl;(with_reducible first|exact zA0|exact zBk);exact rfl;exact rfl)|(apply w1;exact rfl;exact rfl)|(apply gD;exact rfl;exact rfl;(intro hb);rotate_left;(intro hb);rotate_right)|(apply zCO;exact rfl;(intro hb);rotate_left;(intro hb);rotate_right)|(apply zAM;exact rfl)|apply zAO|apply zAU|apply zAT|apply zBu|apply en_r|apply en_e|apply eb_n|apply eb_r|apply eb_e|apply zAY|(apply res1;exact rfl)
 ·omega
 ·refine(congrArg bl ?_:bl false=bl (fewF m))
  have hv':m.pool[i]?=some v:=hv
  have:(m.pool.take 61).all (fun c=>decide (c.text.length≤300))=false:=by
   refine List.all_eq_false.2 ⟨v,List.mem_iff_getElem?.2 ⟨i,by rw[List.getElem?_take_of_lt (by omega)];exact hv'⟩,by simp;omega⟩
  unfold fewF;rw[this];rfl
 ·omega
 ·refine⟨i+1,⟨by omega,by omega,fun j c hj hc=>?_⟩,by omega,zAV (zAI rfl (zAI rfl zAd)) (zAP rfl rfl zA7) rfl rfl⟩
  rcases Nat.lt_or_ge j i with h1|h1
  ·exact hi3 j c h1 hc
  ·have hv':m.pool[i]?=some v:=hv
   rw[show j=i by omega,hv']at hc;injection hc with hc;subst hc;omega
 ·rw[hfin (by omega),decide_eq_false (by omega:¬m.pool.length≤60)];rfl
 ·rw[hfin (by omega),decide_eq_true (by omega:m.pool.length≤60)]
  refine zEa ?_
  rw[Bool.true_and];exact decide_eq_decide.2 (by omega)
 ·rw[hfin (by omega),decide_eq_false (by omega:¬m.pool.length≤60)];rfl
def few3(m:Img)(w f:Int): Bool:=fewF m&&decide (w≤600)&&decide (f≤1500)
theorem zX7(m:Img)(w f:Int): zAp Tryz.prog 9 [zDY m,i64 w,i64 f] (bl (few3 m w f)):=by
 have hF:=zYl m
 refine zA8 Tryz.func9 rfl Tryz.ntmps9 Tryz.results9 rfl ?_
 intro wb St0
 unfold few3
 cases hb:fewF m
 all_goals
  rw[hb]at hF
  unfold zDY at *
  skip
  repeat' first|apply en_n|apply zAK|apply zAA|apply zAF|apply w0|(apply k1u (hd:=rfl);exact rfl;exact rfl)|(refine zAh zLa hF (zAa rfl zAR))|(apply aBox (hd:=rfl) (hro:=rfl);exact rfl;exact rfl)|apply ay (hd:=rfl)|exact zAJ rfl|exact zAD rfl|exact zJi rfl rfl|exact zAj rfl rfl|exact zAc rfl rfl|(apply zBG;exact rfl;(with_reducible exact zDG);exact rfl;exact rfl;exact rfl)|(apply w1;exact rfl;exact rfl)|(apply gD;exact rfl;exact rfl;(intro hb);rotate_left;(intro hb);rotate_right)|apply zAT|apply zAY|(apply res1;exact rfl)
  all_goals (apply zEa;first|(simp_all;done)|(simp_all;intros;omega))
end Go.Proofs.YtcagoomibpcdlaaGreatDoor
namespace Go.Proofs.YtcagoomibpcdlaaGreatDoor
open Go.Sx Go.Vm
structure Sn where
 fin:Int
 vals:List Nn
 num:Int
 out:List (List UInt8)
 steps:Int
def Sn.av(s:Sn): D:=zJd s.fin s.vals s.num s.out s.steps
def sn0: Sn:=⟨0,[],0,[],0⟩
def snT(m:Img)(T:St): Sn:=⟨T.fin,valN m T,T.num,T.out,T.steps⟩
def ranT(m:Img)(w f:Int): St:=runS shw m f.toNat (Go.Vm.start w)
def runE(m:Img)(w f:Int): Int:=if verE m≠0 then verE m else if w<16 then 200 else if f<0 then 210 else 0
def runV(m:Img)(w f:Int): Sn:=if runE m w f≠0 then sn0 else snT m (ranT m w f)
structure ImgL(m:Img): Prop where
 pool:m.pool.length≤2000000
 code:m.code.length≤2000000
 text:∀c∈m.pool,c.text.length≤2000000
theorem zIq(shw:Int→List UInt8)(m:Img): ∀(f:Nat) (s:St),(runS shw m f s).out.length≤s.out.length+f
 |0,s=>by rw[runS];split <;> exact Nat.le_refl _
 |f+1,s=>by
  rw[runS];split
  ·have h1:=zIq shw m f (Go.Vm.step shw m { s with steps:=s.steps+1 })
   have h2:(Go.Vm.step shw m { s with steps:=s.steps+1 }).out.length≤s.out.length+1:=(zPk shw m { s with steps:=s.steps+1 }).out
   omega
  ·omega
theorem zVc(m:Img)(w f:Int): (ranT m w f).out.length≤f.toNat:=by
 have:=zIq shw m f.toNat (Go.Vm.start w)
 have h0:(Go.Vm.start w).out.length=0:=rfl
 unfold ranT;omega
theorem zNM(m:Img)(w f:Int): (runV m w f).out.length≤f.toNat:=by
 unfold runV;split
 ·exact Nat.zero_le _
 ·exact zVc m w f
theorem zLA(m:Img)(w f:Int): (runV m w f).vals.length≤4000:=by
 unfold runV;split
 ·exact Nat.zero_le _
 ·show (valN m _).length≤4000
  unfold valN;split
  ·rename_i h;exact h.2
  ·exact Nat.zero_le _
theorem zJY(m:Img)(hm:ImgL m)(w f:Int)(hw:w≤1048576)(hf:f≤100000): zAp Tryz.prog 10 [zDY m,i64 w,i64 f] (.tup [(runV m w f).av,i64 (runE m w f)]):=by
 have hV:=zRe m hm.pool hm.code hm.text
 unfold runV runE
 by_cases h0:verE m=0
 ·rw[if_neg (by omega:¬verE m≠0)]
  rw[h0]at hV
  by_cases h1:w<16
  ·rw[if_pos h1,if_pos (by decide)];exact zT5 m w f (.inl h1) hV
  ·rw[if_neg h1]
   obtain⟨n,rfl⟩:∃n:Nat,w=n:=⟨w.toNat,by omega⟩
   by_cases h2:f<0
   ·rw[if_pos h2,if_pos (by decide)];exact zT6 m n f ⟨by omega,by omega⟩ h2 hV
   ·rw[if_neg h2,if_neg (by decide)]
    obtain⟨k,rfl⟩:∃k:Nat,f=k:=⟨f.toNat,by omega⟩
    obtain⟨hi,A,hg⟩:=zPU h0
    exact zYe hg hi n k ⟨by omega,by omega⟩ (by omega) hV _ rfl
 ·rw[if_pos h0,if_pos h0];exact zWt m w f _ h0 hV
theorem zQz{m:Img}{w f:Int}(h:few3 m w f=true): ImgL m∧w≤600∧f≤1500∧m.pool.length≤60∧m.code.length≤120:=by
 unfold few3 fewF at h
 simp only[Bool.and_eq_true,decide_eq_true_eq]at h
 obtain⟨⟨⟨⟨h1,h2⟩,h3⟩,h4⟩,h5⟩:=h
 refine⟨⟨by omega,by omega,fun c hc=>?_⟩,h4,h5,h2,h3⟩
 rw[List.take_of_length_le (by omega)]at h1
 have:=List.all_eq_true.1 h1 c hc
 have:=of_decide_eq_true this
 omega
def img1: Img:=⟨[⟨false,7,[]⟩],[⟨1,0,0⟩,⟨0,0,0⟩]⟩
def img0: Img:=⟨[],[]⟩
theorem zXh: runV img1 16 9=⟨1,[⟨51,[],7,0⟩],0,[],2⟩:=by kernel_rfl
theorem zXi: runE img1 16 9=0:=by kernel_rfl
theorem zXf: runV img1 16 1=⟨3,[],0,[],1⟩:=by kernel_rfl
theorem zXg: runE img1 16 1=0:=by kernel_rfl
theorem zXj: runV img0 16 9=sn0:=by kernel_rfl
theorem zXk: runE img0 16 9=190:=by kernel_rfl
theorem zUQ: ImgL img1:=⟨by decide,by decide,fun c hc=>by rw[List.mem_singleton.1 hc];decide⟩
theorem zX3: ImgL img0:=⟨by decide,by decide,fun c hc=>by cases hc⟩
attribute [local irreducible] zAQ Program.underlying Ylds zBD alex zCA zBi awp zAp zCI zCH zAW zBw zA5 zD4 zB0 zBp zBF zBv zB9 zCE zES zBn zBm zBs
set_option maxHeartbeats 4000000 in
theorem zTp: zAp Tryz.prog 8 [] (bl true):=by
 have r1:=zJY img1 zUQ 16 9 (by decide) (by decide)
 have r2:=zJY img1 zUQ 16 1 (by decide) (by decide)
 have r0:=zJY img0 zX3 16 9 (by decide) (by decide)
 rw[zXh,zXi]at r1
 rw[zXf,zXg]at r2
 rw[zXj,zXk]at r0
 replace r1:zAp Tryz.prog 10 [.agg [.slice [.agg [bl false,i64 7,str []]],.slice [.agg [i64 1,i64 0,i64 0],.agg [i64 0,i64 0,i64 0]]],i64 16,i64 9] (.tup [.agg [i64 1,.slice (([⟨51,[],7,0⟩]:List Nn).map nnD),i64 0,.slice [],i64 2],i64 0]):=r1
 replace r2:zAp Tryz.prog 10 [.agg [.slice [.agg [bl false,i64 7,str []]],.slice [.agg [i64 1,i64 0,i64 0],.agg [i64 0,i64 0,i64 0]]],i64 16,i64 1] (.tup [.agg [i64 3,.slice [],i64 0,.slice [],i64 1],i64 0]):=r2
 replace r0:zAp Tryz.prog 10 [.agg [.slice [],.slice []],i64 16,i64 9] (.tup [.agg [i64 0,.slice [],i64 0,.slice [],i64 0],i64 190]):=r0
 refine zA8 Tryz.func8 rfl Tryz.ntmps8 Tryz.results8 rfl ?_
 intro wb St0
 repeat' first|apply en_n|apply zAK|apply zAA|apply zAF|apply w0|(apply k1u (hd:=rfl);exact rfl;exact rfl)|(apply zAn;exact rfl;exact rfl;first|assumption|omega)|(refine zAh zD0 r1 (zAa rfl (zAa rfl (zAa rfl zAR))))|(refine zAh zD0 r2 (zAa rfl (zAa rfl (zAa rfl zAR))))|(refine zAh zD0 r0 (zAa rfl (zAa rfl (zAa rfl zAR))))|(refine zCX (cs:=[bl false,i64 7,str []]) zU2 zIk (PD_d rfl rfl zDR) rfl)|(refine zCX (cs:=[i64 1,i64 0,i64 0]) zPS zCK (PD_d rfl rfl zDR) rfl)|(refine zCX (cs:=[i64 0,i64 0,i64 0]) zPS zCK zDR rfl)|(refine zCX (cs:=[.slice [],.slice []]) zMI zIl zDR rfl)|(refine zCX (cs:=[.slice [.agg [bl false,i64 7,str []]],.slice [.agg [i64 1,i64 0,i64 0],.agg [i64 0,i64 0,i64 0]]]) zMI zIl (PD_d rfl rfl (PD_d rfl rfl zDR)) rfl)|(refine zCG zKE zD7 (by kernel_rfl) rfl rfl (zAa rfl zAR) rfl)|(refine zGK zKD zB6 (by kernel_rfl) rfl rfl (zAa rfl (zAa rfl zAR)) rfl)|(apply zAl;exact rfl;exact rfl;exact rfl;(first|with_reducible exact zDG|with_reducible exact zCR);exact rfl;exact rfl;exact rfl;exact rfl)|(apply aI (hd:=rfl);(first|exact zCw rfl|exact zDn rfl rfl rfl|exact Co_nn rfl);exact rfl;(with_reducible exact zEJ);exact fun _=>rfl;rotate_left;intro v hv;rotate_right)|(apply zDs (hd:=rfl) (hro:=rfl);(with_reducible first|exact zIl|exact zEq))|apply ay (hd:=rfl)|exact zAJ rfl|exact zAD rfl|(apply zFd;exact rfl;(with_reducible exact fn_2))|(apply zC3;exact rfl;(with_reducible exact zFh))|(apply zBZ;exact rfl;(with_reducible exact zDj))|exact zGM rfl rfl|exact zAj rfl rfl|exact zAc rfl rfl|exact zAm rfl rfl|(apply zAC;exact rfl;(with_reducible first|exact zCr|exact zHF|exact zF1))|(apply zAG;exact rfl;(with_reducible first|exact zDD|exact zAS|exact zIL);exact rfl;exact rfl)|(apply zBG;exact rfl;(with_reducible exact zDG);exact rfl;exact rfl;exact rfl)|(apply w1;exact rfl;exact rfl)|(apply gD;exact rfl;exact rfl;(intro hb);rotate_left;(intro hb);rotate_right)|(refine w0' ?_)|apply zAT|apply zAY|(apply res1;exact rfl)
 ·exact⟨Int.le_refl 0,by decide⟩
 ·rfl
 ·exfalso;injection hv with hv;subst hv;exact hb rfl
end Go.Proofs.YtcagoomibpcdlaaGreatDoor
