/- Parts of the proof. -/
import Derived.Test.YtcagoomibpcdlaaGreatDoorMBX
set_option maxHeartbeats 16000000
namespace Go.Proofs.YtcagoomibpcdlaaGreatDoor
open _root_.Go.Proofs.Tryz
open Go.Sx Go.Vm
theorem zQG(m:Img)(w f:Int)(hf:¬f<0): (1<=(snT m (ranT m w f)).fin/\(snT m (ranT m w f)).fin<=6)/\(snT m (ranT m w f)).steps<=f/\((snT m (ranT m w f)).fin=1\/(snT m (ranT m w f)).vals=[])/\((snT m (ranT m w f)).fin=2\/(snT m (ranT m w f)).num=0)/\((snT m (ranT m w f)).fin=3->(snT m (ranT m w f)).steps=f):=by
 obtain⟨n,rfl⟩:∃n:Nat,f=n:=⟨f.toNat,by omega⟩
 have h:=zOS shw m n (Go.Vm.start w) rfl rfl
 have e1:ranT m w (n:Int)=runS shw m n (Go.Vm.start w):=rfl
 have e0:(Go.Vm.start w).steps=0:=rfl
 rw[e1]
 dsimp only at h
 rw[e0]at h
 generalize runS shw m n (Go.Vm.start w)=T at *
 obtain⟨h1,h2,h3,h4⟩:=h
 refine⟨?_,?_,?_,h3,fun c=>?_⟩
 ·show 1<=T.fin/\T.fin<=6;omega
 ·show T.steps<=_;omega
 ·show T.fin=1\/valN m T=[]
  by_cases c:T.fin=1
  ·exact .inl c
  ·right;unfold valN;rw[if_neg (fun c2=>c c2.1)]
 ·show T.steps=_;have:=h4 c;omega
attribute [local irreducible] zAO Program.underlying Ylds zBE alex zB0 zBk awp zAg zB9 zB8 zAU zBj zA6 zDJ zBl zBn zBC zBq zBz zB7 zDQ zBm zBc zBe
theorem zX1(m:Img)(w f:Int): zAg prog 6 [zCm m,i64 w,i64 f] (bl true):=by
 have hA:=zVE
 have hF:=zZl m w f
 refine zAr func6 rfl ntmps6 results6 rfl ?_
 intro wb St0
 cases hfw:few3 m w f
 ·rw[hfw]at hF
  unfold zCm at *
  skip
  repeat' first|apply en_n|apply zAG|apply zAA|apply zAD|apply w0|refine k0u (hd:=rfl) rfl rfl ?_|(refine zAd zHJ hA zAM)|(refine zAd zId hF (CoLA rfl))|refine aBox (hd:=rfl) (hro:=rfl) rfl rfl ?_|apply ay (hd:=rfl)|exact zAF rfl|exact zAB rfl|exact zBS rfl|exact zAZ rfl rfl|exact zAV rfl rfl|exact zBA rfl zCt rfl rfl rfl|refine w1 rfl rfl ?_|refine zAI rfl ?_|apply zAQ|apply en_r|apply zAT|refine res1 rfl ?_
  all_goals rfl
 ·rw[hfw]at hF
  obtain⟨hm,hw,hf,-,-⟩:=zSN hfw
  have hC:=zTG m hm.pool hm.code
  have hV:=zPm m hm.code
  unfold zCm at *
  skip
  repeat' first|(refine zEd (id:=3) ?_)|apply en_n|apply zAG|apply zAA|apply zAD|apply w0|refine k0u (hd:=rfl) rfl rfl ?_|(refine zAd zHJ hA zAM)|(refine zAd zId hF (CoLA rfl))|refine aBox (hd:=rfl) (hro:=rfl) rfl rfl ?_|apply ay (hd:=rfl)|exact zAF rfl|exact zAB rfl|exact zEM rfl rfl|exact zBS rfl|exact zAZ rfl rfl|exact zAV rfl rfl|exact zBA rfl zCt rfl rfl rfl|refine w1 rfl rfl ?_|(apply gD;exact rfl;exact rfl;all_goals intro hb)|(apply zBa;exact rfl;all_goals intro hb)|refine zAI rfl ?_|apply zAR|apply zAQ|apply en_r|apply zAT|refine res1 rfl ?_
  iterate 2 exact rfl
  rename_i hw16
  refine Stop.go ?_
  have hR1:=zLm m hm w f (by omega) (by omega)
  rw[zNT hw16 hb]at hR1
  by_cases he:verE m=0
  ·have hp:=zQG m w f hb
   rw[<-zWz hw16 hb he]at hp
   rw[he]at hR1
   generalize runV m w f=s1 at *
   obtain⟨f1,v1,n1,o1,t1⟩:=s1
   dsimp only at hp
   obtain⟨⟨p1,p2⟩,p3,p4,p5,p6⟩:=hp
   have q4:f1=1\/(v1.length:Int)=0:=p4.imp_right (fun h=>by rw[h];rfl)
   clear p4
   unfold Sn.av zRC zCm at *
   dsimp only at hR1
   have hc:f1=1\/f1=2\/f1=3\/4<=f1:=by omega
   rcases hc with c|c|c|c
   all_goals
    repeat' first|apply en_n|apply zAG|apply zAA|apply zAD|apply w0|refine k0u (hd:=rfl) rfl rfl ?_|exact zM3 rfl rfl|exact zHL rfl rfl|exact zAi rfl rfl|exact zAn rfl rfl|exact zGh rfl rfl|exact zGi rfl rfl|(refine zAd zGd hC (CoLA rfl))|(refine zAd zGc hR1 (CoLA rfl))|refine zAj rfl rfl rfl zCd rfl rfl rfl rfl ?_|(apply zDv (hd:=rfl) (hro:=rfl);(with_reducible exact zFd))|apply ay (hd:=rfl)|exact zAF rfl|exact zAB rfl|exact zBD rfl zEJ|exact zAZ rfl rfl|exact zAV rfl rfl|exact zAk rfl rfl|(apply zAC;exact rfl;(with_reducible first|exact zC5|exact zHg|exact zLr|exact zHf))|(apply zAE;exact rfl;(with_reducible first|exact zDf|exact zAP|exact zIt|exact zEP);exact rfl;exact rfl)|exact zBA rfl zCt rfl rfl rfl|refine w1 rfl rfl ?_|(refine w0' ?_)|refine zAJ rfl ?_|apply zAR|apply zAQ|apply zAT|refine res1 rfl ?_
   all_goals first|omega|rfl|contradiction|(exact zDR (decide_eq_true rfl))|skip
  ·have hv:runV m w f=sn0:=by unfold runV;rw[zNT hw16 hb,if_pos he]
   rw[hv]at hR1
   generalize verE m=e at *
   unfold Sn.av sn0 zRC zCm at *
   dsimp only at hR1
   skip
   repeat' first|apply en_n|apply zAG|apply zAA|apply zAD|apply w0|exact zAi rfl rfl|exact zGh rfl rfl|(refine zAd zGd hC (CoLA rfl))|(refine zAd zGc hR1 (CoLA rfl))|(refine zAd zJu hV (CoLA rfl))|refine zAj rfl rfl rfl zCd rfl rfl rfl rfl ?_|(apply zDv (hd:=rfl) (hro:=rfl);(with_reducible exact zFd))|apply ay (hd:=rfl)|exact zAF rfl|exact zAB rfl|exact zAZ rfl rfl|exact zAk rfl rfl|exact zAC rfl zC5|exact zAE rfl zDf rfl rfl|exact zBA rfl zCt rfl rfl rfl|refine w1 rfl rfl ?_|(refine w0' ?_)|refine zAI rfl ?_|apply zAQ|apply en_r|apply zAT|refine res1 rfl ?_
   all_goals first|omega|rfl|contradiction|(exact zDR (decide_eq_true rfl))|skip
end Go.Proofs.YtcagoomibpcdlaaGreatDoor
