import Derived.Test.YtcagoomibpcdlaaGreatDoorMBB
set_option maxHeartbeats 16000000
namespace Go.Proofs.YtcagoomibpcdlaaGreatDoor
open _root_.Go.Proofs.Tryz
open Go.Sx Go.Vm
theorem zU3: zAL prog 15=true:=by kernel_rfl
abbrev zR6(l:List (List UInt8)): D:=.slice (l.map str)
def toNd(n:Nn): Nd:=⟨n.kind,n.text,n.num,n.kids⟩
theorem zMI(l:List Nn): (D.slice (l.map nnD))=zSc (l.map toNd):=by
 unfold zSc;rw[qBt];rfl
theorem zWh{a b:List Nn}: a.map toNd=b.map toNd↔a=b:=by
 refine⟨fun h=>?_,fun h=>by rw[h]⟩
 refine List.map_inj_right (f:=toNd) (fun x y e=>?_) |>.1 h
 cases x;cases y;simp[toNd]at e;simp[e]
attribute [local irreducible] zAL Program.underlying Ylds zA2 alex zBZ zBP awp zAb zBh zBg zAW zBF zAp zCO zBG zBR zAr zBV zBY zBe zCQ zBM zA8 zBE
theorem zYc(A B:List (List UInt8))(hL:A.length<=2000000): zAb prog 15 [zR6 A,zR6 B] (bl (decide (A=B))):=by
 refine zAj func15 rfl ntmps15 results15 rfl ?_
 intro wb St0
 repeat' first|apply en_n|apply zAE|apply zAA|apply zAB|apply w0|refine ayA rfl ?_|apply ay (hd:=rfl)|exact zJf rfl rfl|(apply zBO;exact rfl;all_goals intro hb)|apply zAO|apply zAP|apply zAM|apply en_r|apply zAS|refine res1 rfl ?_
 ·have:A≠B:=fun e=>by subst e;omega
  rw[decide_eq_false this]
 ·have hlen:A.length=B.length:=by omega
  refine zBA (α:=Nat) (fun i=>i<=A.length/\A.take i=B.take i) (fun i=>[(0,.d (zR6 A)),(1,.d (zR6 B)),(5,.d (i64 (i:Int)))]) (fun _=>[]) (fun i=>A.length-i) 0 ⟨qAQ _,rfl⟩
   (zAU (Le_all rfl) zAe rfl rfl) ?_
  rintro i ⟨hi1,hi2⟩
  repeat' first|apply en_n|apply zAE|apply zAA|apply zAB|apply w0|exact zRi rfl rfl|(apply aI (hd:=rfl);(first|exact zA0 rfl|exact zBX rfl rfl rfl|exact Co_nn rfl);exact rfl;(with_reducible first|exact zEn|exact zEn);exact fun _=>rfl;rotate_left;intro v hv;rotate_right)|refine ayA rfl ?_|apply ay (hd:=rfl)|exact zES rfl rfl|refine zBp rfl rfl ?_|(apply zBO;exact rfl;all_goals intro hb)|apply zAO|apply zAP|apply zAM|apply zBH|refine awDA ?_|apply en_r|apply en_e|apply eb_n|apply eb_r|apply eb_e|apply zAS|refine res1 rfl ?_
  ·omega
  ·omega
  ·rename_i b1 b2 u hu
   have:A≠B:=by rintro rfl;rw[hu]at hv;exact hb (qBA hv)
   rw[decide_eq_false this]
  ·omega
  ·rename_i b1 b2 u hu
   obtain rfl:u=v:=Decidable.not_not.1 hb
   exact⟨i+1,⟨by omega,zGc (i:=i) hi2 hu hv⟩,by omega,zAU (Le_all rfl) zAe rfl rfl⟩
  ·have h1:=hi2
   rw[show i=A.length by omega,qAw,hlen,qAw]at h1
   rw[decide_eq_true h1]
theorem zYd(A B:List Nn)(hL:A.length<=2000000): zAb prog 26 [.slice (A.map nnD),.slice (B.map nnD)] (bl (decide (A=B))):=by
 rw[zMI,zMI]
 have:=zbz (A.map toNd) (B.map toNd) (by rw[qAC];exact hL)
 rwa [decide_eq_decide.2 zWh]at this
theorem zV2(b2 b6:Bool)(f f' n n' s s':Int)(A B:List Nn)(O P:List (List UInt8))(h2:zAb prog 26 [.slice (A.map nnD),.slice (B.map nnD)] (bl b2))(h6:zAb prog 15 [zR6 O,zR6 P] (bl b6)):
  zAb prog 13 [zIt f A n O s,zIt f' B n' P s'] (bl (decide (f=f')&&b2&&decide (n=n')&&b6)):=by
 refine zAj func13 rfl ntmps13 results13 rfl ?_
 intro wb St0
 unfold zIt
 cases b2 <;> cases b6
 all_goals
  repeat' first|apply en_n|apply zAE|apply zAA|apply zAB|apply w0|refine k1u (hd:=rfl) rfl rfl ?_|exact ycA zbQ h2|exact ycA zU3 h6|refine aBoA ?_|refine ayA rfl ?_|apply ay (hd:=rfl)|exact zFC rfl rfl|refine w1 rfl rfl ?_|(apply gD;exact rfl;exact rfl;all_goals intro hb)|apply zAM|apply zAS|refine res1 rfl ?_
  all_goals (apply zDn;simp_all)
theorem zPK(f f' n n' s s':Int)(A B:List Nn)(O P:List (List UInt8))(hA:A.length<=2000000)(hO:O.length<=2000000):
  zAb prog 13 [zIt f A n O s,zIt f' B n' P s'] (bl (decide (f=f')&&decide (A=B)&&decide (n=n')&&decide (O=P))) :=
 zV2 _ _ _ _ _ _ _ _ _ _ _ _ (zYd A B hA) (zYc O P hO)
theorem zWD(m:Img)(hp:m.pool.length<=2000000)(hc:m.code.length<=2000000): zAb prog 11 [zCs m] (zCs m):=by
 refine zB0 func11 rfl ntmps11 results11 rfl ?_
 intro wb St0
 unfold zCs
 repeat' first|apply en_n|apply zAE|apply zAA|apply zAB|apply w0|(refine zAX ?_)|(refine zAu ?_)|exact zA5|(with_reducible exact rfl)|(refine RV_c rfl rfl zC7 rfl rfl ?_ ?_)|(refine zBI (cs:=[.slice (m.pool.map enCn),.slice (m.code.map enIn)]) zPY zK2 (PD_d rfl rfl (PD_d rfl rfl zCI)) rfl)|(refine zC9 zMs zC8 (by kernel_rfl) rfl)|(refine zC9 zMr zFg (by kernel_rfl) rfl)|(refine zCJ (by kernel_rfl) ?_;refine aStA ?_)|(refine zEH rfl (zA0 rfl) zMs zC8 zZm zZp (fun d hd=>by obtain⟨c,_,rfl⟩:=qA5.1 hd;rfl) (by rw[qAC];omega))|(refine zEH rfl (zA0 rfl) zMr zFg zZl zZo (fun d hd=>by obtain⟨c,_,rfl⟩:=qA5.1 hd;rfl) (by rw[qAC];omega))|refine aBoA ?_|refine aAlA ?_|refine ayA rfl ?_|apply ay (hd:=rfl)|(refine w0' ?_)|apply zAM|refine awDA ?_
 all_goals trace_state
def fewF(m:Img): Bool:=(m.pool.take 61).all (fun c=>decide (c.text.length<=300))&&decide (m.pool.length<=60)&&decide (m.code.length<=120)
theorem zeA(m:Img): zAb prog 17 [zCs m] (bl (fewF m)):=by
 refine zAj func17 rfl ntmps17 results17 rfl ?_
 intro wb St0
 unfold zCs
 repeat' first|apply en_n|apply zAE|apply zAA|apply zAB|apply w0|refine aBoA ?_|refine ayA rfl ?_|apply zAO
 refine zBA (α:=Nat) (fun i=>i<=m.pool.length/\i<=61/\∀(j:Nat) c,j<i->m.pool[j]?=some c->c.text.length<=300) (fun i=>[(1,.ptr 0 0),(3,.d (i64 (i:Int)))]) (fun _=>[.box [.d (.slice (m.pool.map enCn)),.d (.slice (m.code.map enIn))]]) (fun i=>61-i) 0 ⟨qAQ _,qAQ _,fun j c h=>by omega⟩
  (zAU (Le_all rfl) (zAK rfl rfl zAe) rfl rfl) ?_
 rintro i ⟨hi1,hi2,hi3⟩
 have hfin:(¬i<m.pool.length\/¬i<61)->fewF m=(decide (m.pool.length<=60)&&decide (m.code.length<=120)):=by
  intro h
  unfold fewF
  by_cases h60:m.pool.length<=60
  ·have:(m.pool.take 61).all (fun c=>decide (c.text.length<=300))=true:=by
    rw[qAe (by omega)]
    refine qAb.2 fun c hc=>?_
    obtain⟨j,hj⟩:=qA1.1 hc
    have:=(qAA.1 hj).1
    exact decide_eq_true (hi3 j c (by omega) hj)
   rw[this];rfl
  ·rw[decide_eq_false h60];simp
 repeat' first|apply en_n|apply zAE|apply zAA|apply zAB|apply w0|refine k1u (hd:=rfl) rfl rfl ?_|(apply zD2;exact rfl;with_reducible exact ustr)|(apply aI (hd:=rfl);(first|exact zA0 rfl|exact zBX rfl rfl rfl|exact Co_nn rfl);exact rfl;(with_reducible exact zC8);exact fun _=>rfl;rotate_left;intro v hv;rotate_right)|refine ayA rfl ?_|refine ayQ rfl ?_|apply ay (hd:=rfl)|exact zES rfl rfl|exact zH7 rfl rfl|exact zHI rfl rfl|refine zBp rfl rfl ?_|refine w1 rfl rfl ?_|(apply gD;exact rfl;exact rfl;all_goals intro hb)|(apply zBO;exact rfl;all_goals intro hb)|refine zAI rfl ?_|apply zAO|apply zAP|apply zAM|apply zBH|apply en_r|apply en_e|apply eb_n|apply eb_r|apply eb_e|apply zAS|refine res1 rfl ?_
 ·omega
 ·refine(congrArg bl ?_:bl false=bl (fewF m))
  have hv':m.pool[i]?=some v:=hv
  have:(m.pool.take 61).all (fun c=>decide (c.text.length<=300))=false:=by
   refine List.all_eq_false.2 ⟨v,qA1.2 ⟨i,by rw[List.getElem?_take_of_lt (by omega)];exact hv'⟩,by simp;omega⟩
  unfold fewF;rw[this];rfl
 ·omega
 ·refine⟨i+1,⟨by omega,by omega,fun j c hj hc=>?_⟩,by omega,zAU (Le_all rfl) (zAK rfl rfl zAe) rfl rfl⟩
  rcases qAR j i with h1|h1
  ·exact hi3 j c h1 hc
  ·have hv':m.pool[i]?=some v:=hv
   rw[show j=i by omega,hv']at hc;injection hc with hc;subst hc;omega
 ·rw[hfin (by omega),decide_eq_false (by omega:¬m.pool.length<=60)];rfl
 ·rw[hfin (by omega),decide_eq_true (by omega:m.pool.length<=60)]
  refine zDn ?_
  rw[Bool.true_and];exact decide_eq_decide.2 (by omega)
 ·rw[hfin (by omega),decide_eq_false (by omega:¬m.pool.length<=60)];rfl
def few3(m:Img)(w f:Int): Bool:=fewF m&&decide (w<=600)&&decide (f<=1500)
theorem zdW(m:Img)(w f:Int): zAb prog 9 [zCs m,i64 w,i64 f] (bl (few3 m w f)):=by
 have hF:=zeA m
 refine zAj func9 rfl ntmps9 results9 rfl ?_
 intro wb St0
 unfold few3
 cases hb:fewF m
 all_goals
  rw[hb]at hF
  unfold zCs at *
  skip
  exact yS
