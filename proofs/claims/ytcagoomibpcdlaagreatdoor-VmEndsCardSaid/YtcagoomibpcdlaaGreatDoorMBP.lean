/- Parts of the proof. -/
import Derived.Test.YtcagoomibpcdlaaGreatDoorMBO
set_option maxHeartbeats 16000000
namespace Go.Proofs.YtcagoomibpcdlaaGreatDoor
open _root_.Go.Proofs.Tryz
open Go.Sx Go.Vm
attribute [local irreducible] zAO Program.underlying Ylds zBE alex zB0 zBk awp zAg zB9 zB8 zAU zBj zA6 zDJ zBl zBn zBC zBq zBz zB7 zDQ zBm zBc zBe
theorem zNx(E:List Ins)(hE:E.length<=2000000): zAg prog 72 [.slice (E.map enIn)] (i64 (asmE E)):=by
 refine zAr func72 rfl ntmps72 results72 rfl ?_
 intro wb St0
 repeat' first|apply en_n|apply zAG|apply zAA|apply zAD|apply w0|refine k0u (hd:=rfl) rfl rfl ?_|(refine zAX [] [] rfl rfl zDD (zYd _ (fun i=>!zH1 i) zKV zSY E hE) rfl (SArgs_all rfl) rfl (by decide) rfl rfl rfl rfl)|(refine zAX [0] [] rfl rfl zDD (zYc _ _ _ zKU (zSX E) E hE) rfl (SArgs_all rfl) rfl (by decide) rfl rfl rfl rfl)|refine aBox (hd:=rfl) (hro:=rfl) rfl rfl ?_|apply ay (hd:=rfl)|exact zAF rfl|exact zAB rfl|exact zBD rfl zDk|exact zGM rfl rfl|exact zAZ rfl rfl|exact zAV rfl rfl|exact zAE rfl zBg rfl rfl|exact zKX rfl|refine w1 rfl rfl ?_|(apply gD;exact rfl;exact rfl;all_goals intro hb)|refine zAI rfl ?_|(apply zE3;exact rfl;all_goals intro hb)|apply zAR|apply zAQ|apply en_r|apply zAT|refine res1 rfl ?_
 all_goals (refine congrArg D.val (congrArg (Value.int .i64) ?_))
 ·rw[asmE,if_pos (by rw[decide_eq_true (by omega:E.length>20000)];rfl)]
 ·rw[asmE,if_pos (by rw[hb];exact Bool.or_true _)]
 ·rename_i h1 h2;rw[asmE,if_neg (by rw[h2,decide_eq_false (by omega:¬E.length>20000)];decide),if_pos hb]
 ·rename_i h1 h2;rw[asmE,if_neg (by rw[h2,decide_eq_false (by omega:¬E.length>20000)];decide),if_neg (by rw[hb];decide)]
theorem zNf(m:Img)(hp:m.pool.length<=2000000)(hE:m.code.length<=2000000)(ht:∀c∈m.pool,c.text.length<=2000000): zAg prog 35 [zCm m] (i64 (imgE m)):=by
 refine zAr func35 rfl ntmps35 results35 rfl ?_
 intro wb St0
 unfold zCm
 repeat' first|apply en_n|apply zAG|apply zAA|apply zAD|apply w0|refine aBox (hd:=rfl) (hro:=rfl) rfl rfl ?_|apply ay (hd:=rfl)|exact zAF rfl|exact zAB rfl|exact zBD rfl zD4|exact zGM rfl rfl|exact zAC rfl zB2|exact zAE rfl zAx rfl rfl|(apply zBa;exact rfl;all_goals intro hb)|apply zAK|apply zAR|apply zAQ|apply en_r|apply zAT|refine res1 rfl ?_
 ·exact congrArg D.val (congrArg (Value.int .i64) (by unfold imgE;rw[if_pos (by omega)]))
 refine zBV (α:=Nat) (fun i=>i<=m.pool.length/\∀j,j<i->zDN m.pool j=true) (fun i=>[(1,.ptr 0 0),(10,.d (.slice (m.pool.map enCn))),(11,.d (i64 (m.pool.length:Int))),(12,.d (i64 (i:Int)))]) (fun _=>[.box [.d (.slice (m.pool.map enCn)),.d (.slice (m.code.map enIn))]]) (fun i=>m.pool.length-i) 0 ⟨qAV _,fun j h=>by omega⟩
  (zAS (Le_cons rfl (Le_cons rfl (Le_d rfl rfl (Le_d rfl rfl Le_nil)))) (zAN rfl rfl zAs) rfl rfl) ?_
 rintro i ⟨hi1,hi2⟩
 repeat' first|(refine zWe (id:=6) ?_)|(refine zEd (id:=9) ?_)|apply en_n|apply zAG|apply zAA|apply zAD|apply w0|(apply aI (hd:=rfl);(first|exact zCQ rfl|exact zCp rfl rfl rfl|exact Co_nn rfl);exact rfl;(with_reducible exact zDF);exact fun _=>rfl;rotate_left;intro v hv;rotate_right)|(apply zDv (hd:=rfl) (hro:=rfl);(with_reducible exact zJP))|apply ay (hd:=rfl)|exact zAF rfl|exact zAB rfl|exact zBK rfl zD3 rfl|exact zEM rfl rfl|(refine w0' ?_)|refine zAj rfl rfl rfl zD3 rfl rfl rfl rfl ?_|(apply zBa;exact rfl;all_goals intro hb)|apply zAK|apply zAR|apply zBX|apply en_e|apply eb_e
 ·omega
 ·refine Stop.go ?_
  have hv':m.pool[i]?=some v:=hv
  have hil:i<m.pool.length:=(qAA.1 hv').1
  have hvd:m.pool.getD i default=v:=by rw[qAE,hv'];rfl
  have hR:=zT7 v (ht v (qAH hv'))
  cases hr:zFG v
  ·rw[hr]at hR
   have hth:zDN m.pool i=false:=by unfold zDN;rw[hvd,hr];rfl
   unfold enCn at *
   skip
   repeat' first|apply en_n|apply zAG|apply zAA|apply zAD|apply w0|refine kUd (hd:=rfl) rfl rfl ?_|refine k0ud (hd:=rfl) rfl rfl ?_|(refine zAd zFj hR (CoLA rfl))|apply ay (hd:=rfl)|exact zAF rfl|exact zAB rfl|exact zBS rfl|exact zAZ rfl rfl|exact zBA rfl zD3 rfl rfl rfl|refine zAI rfl ?_|apply zAQ|refine zAf (by kernel_rfl) (by kernel_rfl) ?_|apply en_r|apply eb_r|apply zAT|refine res1 rfl ?_
   exact congrArg D.val (congrArg (Value.int .i64) (by unfold imgE;rw[if_neg (by omega),if_neg (fun h=>by have:=qAX.1 h i (qBL.2 hil);rw[hth]at this;cases this)]))
  ·rw[hr]at hR
   rcases Nat.eq_zero_or_pos i with h0|h0
   ·subst h0
    have hth:zDN m.pool 0=true:=by unfold zDN;rw[hvd,hr];rfl
    unfold enCn at *
    skip
    repeat' first|apply en_n|apply zAA|apply zAD|apply w0|refine k1ud (hd:=rfl) rfl rfl ?_|exact zDx rfl rfl|(refine zAd zFj hR (CoLA rfl))|apply ay (hd:=rfl)|exact zAF rfl|refine zBG rfl rfl ?_|exact zBS rfl|exact zAV rfl rfl|exact zBA rfl zD3 rfl rfl rfl|refine w1 rfl rfl ?_|refine zAJ rfl ?_|apply zAR|refine zAf (by kernel_rfl) (by kernel_rfl) ?_|apply eb_n
    ·omega
    ·exact⟨1,⟨by omega,fun j hj=>by rw[show j=0 by omega];exact hth⟩,by omega,zAS (Le_all rfl) (zAN rfl rfl zAs) rfl rfl⟩
   ·obtain⟨u,hu⟩:∃u,m.pool[i-1]?=some u:=⟨_,qAB (by omega)⟩
    have hud:m.pool.getD (i-1) default=u:=by rw[qAE,hu];rfl
    have hL:=zXY u v
    have hth:zDN m.pool i=zKP u v:=by unfold zDN;rw[hvd,hud,hr,decide_eq_false (by omega)];rfl
    have hu':m.pool[((i:Int)-1).toNat]?=some u:=by rw[show ((i:Int)-1).toNat=i-1 by omega];exact hu
    cases hl:zKP u v
    all_goals
     rw[hl]at hL hth
     unfold enCn at *
     skip
     repeat' first|apply en_n|apply zAG|apply zAA|apply zAD|apply w0|exact zEr rfl rfl|(refine zAd zFj hR (CoLA rfl))|(refine zAd zLW hL (CoLA rfl))|(apply aJ (hd:=rfl);(first|exact zCQ rfl|exact zCp rfl rfl rfl|exact Co_nn rfl);exact rfl;(with_reducible exact zDF);assumption;omega;exact fun _=>rfl)|apply ay (hd:=rfl)|exact zAF rfl|exact zAB rfl|exact zBK rfl zD3 rfl|refine zBG rfl rfl ?_|refine zC2 rfl rfl ?_|exact zBS rfl|exact zAZ rfl rfl|exact zAV rfl rfl|exact zAC rfl zB2|exact zAE rfl zAx rfl rfl|exact zBA rfl zD3 rfl rfl rfl|refine w1 rfl rfl ?_|refine zAI rfl ?_|refine zAJ rfl ?_|apply zAR|apply zAQ|refine zAf (by kernel_rfl) (by kernel_rfl) ?_|apply en_r|apply eb_n|apply eb_r|apply zAT|refine res1 rfl ?_
     all_goals first
      |omega
      |exact congrArg D.val (congrArg (Value.int .i64) (by unfold imgE;rw[if_neg (by omega),if_neg (fun h=>by have:=qAX.1 h i (qBL.2 hil);rw[hth]at this;cases this)]))
      |exact⟨i+1,⟨by omega,fun j hj=>by
        rcases qAQ j i with h1|h1
        ·exact hi2 j h1
        ·rw[show j=i by omega];exact hth⟩,by omega,zAS (Le_all rfl) (zAN rfl rfl zAs) rfl rfl⟩
 ·have hall:(List.range m.pool.length).all (zDN m.pool)=true:=qAX.2 fun j hj=>hi2 j (by have:=qBL.1 hj;omega)
  have hA:=zNx m.code hE
  refine Stop.go ?_
  repeat' first|apply en_n|apply zAG|apply zAA|apply zAD|apply w0|(refine zAd zMe hA (CoLA rfl))|apply ay (hd:=rfl)|exact zAB rfl|exact zAC rfl zA9|exact zAE rfl zBg rfl rfl|apply zAQ|apply zAT|refine res1 rfl ?_
  exact congrArg D.val (congrArg (Value.int .i64) (by unfold imgE;rw[if_neg (by omega),if_pos hall]))
theorem zH2{m:Img}(h:imgE m=0): ImgOk m:=by
 unfold imgE at h
 split at h
 ·omega
 rename_i h1
 split at h
 case isFalse=>omega
 rename_i h2
 unfold asmE at h
 split at h
 ·omega
 rename_i h3
 split at h
 ·omega
 rename_i h4
 simp only[qBj,decide_eq_true_eq,not_or]at h3
 refine⟨by omega,by omega,fun c hc=>?_,fun i hi=>?_⟩
 ·obtain⟨j,hj⟩:=qA0.1 hc
  have:=qAX.1 h2 j (qBL.2 (qAA.1 hj).1)
  unfold zDN at this
  rw[qAE,hj]at this
  have hr:zFG c=true:=(Bool.and_eq_true_iff.1 this).1
  unfold zFG at hr
  split at hr
  ·rename_i ht
   simp only[qAZ,decide_eq_true_eq]at hr
   exact⟨fun _=>hr.2,by rw[hr.1];rfl⟩
  ·rename_i ht
   simp only[qAZ,decide_eq_true_eq]at hr
   exact⟨fun h=>absurd h ht,hr.2⟩
 ·have h5:zH1 i=true:=by
   cases hq:zH1 i with
   |true=>rfl
   |false=>exact absurd (List.any_eq_true.2 ⟨i,hi,by rw[hq];rfl⟩) h3.2
  have h6:(zFz i.op&&decide (i.a>=(m.code.length:Int)))=false:=by
   cases hq:(zFz i.op&&decide (i.a>=(m.code.length:Int)))with
   |false=>rfl
   |true=>exact absurd (List.any_eq_true.2 ⟨i,hi,hq⟩) h4
  simp only[zH1,zFW,zGN,qAZ,decide_eq_true_eq]at h5
  refine⟨by omega,by omega,by omega,by omega,by omega,by omega,fun h15=>?_⟩
  have hg:zFz i.op=true:=by unfold zFz zFW;simp;omega
  rw[hg]at h6
  simp at h6
  omega
theorem CRun.fin_{con:List UInt8->Bool}{m:Img}(him:ImgOk m){T:CK}: ∀(n:Nat) (c:CK),c.mu<=n->CRun con m T c->(T.bad=true\/T.work=[])/\CRun con m T T:=by
 intro n
 induction n with
 |zero =>
  intro c hn h
  by_cases hd:c.bad=true\/c.work=[]
  ·have:=h.done hd;subst this;exact⟨hd,h⟩
  ·simp only[not_or,Bool.not_eq_true]at hd
   obtain⟨k,s,-,-,-,-,-,-,hmu⟩:=h.next him hd.1 hd.2
   omega
 |succ n ih =>
  intro c hn h
  by_cases hd:c.bad=true\/c.work=[]
  ·have:=h.done hd;subst this;exact⟨hd,h⟩
  ·simp only[not_or,Bool.not_eq_true]at hd
   obtain⟨k,s,-,-,-,-,-,h',hmu⟩:=h.next him hd.1 hd.2
   exact ih _ (by omega) h'
theorem zSV{con:List UInt8->Bool}{m:Img}(him:ImgOk m): (ckT con m).bad=false↔zPb con m:=by
 obtain⟨h1,h2⟩:=CRun.fin_ him _ _ (qAN _) (zSW con m)
 exact h2.ok h1
def verE(m:Img): Int:=if imgE m≠0 then imgE m else if(ckT conF m).bad then 190 else 0
theorem zQk{m:Img}(h:verE m=0): ImgOk m/\zPb conF m:=by
 unfold verE at h
 split at h
 ·contradiction
 rename_i h1
 have h1:imgE m=0:=by omega
 refine⟨zH2 h1,(zSV (zH2 h1)).1 ?_⟩
 cases hb:(ckT conF m).bad with
 |false=>rfl
 |true=>rw[hb]at h;exact absurd h (by decide)
theorem zS5(m:Img)(hp:m.pool.length<=2000000)(hE:m.code.length<=2000000)(ht:∀c∈m.pool,c.text.length<=2000000): zAg prog 18 [zCm m] (i64 (verE m)):=by
 have hI:=zNf m hp hE ht
 refine zAr func18 rfl ntmps18 results18 rfl ?_
 intro wb St0
 by_cases h0:imgE m=0
 ·have hC:=zU7 m (zH2 h0) _ rfl
  rw[h0]at hI
  have hv:verE m=if(ckT conF m).bad then 190 else 0:=by unfold verE;rw[if_neg (by omega)]
  rw[hv]
  cases hb:(ckT conF m).bad
  all_goals
   rw[hb]at hC
   unfold zCm at *
   skip
   repeat' first|apply en_n|apply zAG|apply zAA|apply zAD|apply w0|exact zGi rfl rfl|(refine zAd zHK hI (CoLA rfl))|(refine zAd zJr hC (CoLA rfl))|refine aBox (hd:=rfl) (hro:=rfl) rfl rfl ?_|apply ay (hd:=rfl)|exact zAF rfl|exact zAB rfl|exact zBS rfl|exact zAk rfl rfl|exact zBA rfl zCt rfl rfl rfl|refine zAI rfl ?_|refine zAJ rfl ?_|apply zAR|apply zAQ|apply en_r|apply zAT|refine res1 rfl ?_
   all_goals rfl
 ·have hv:verE m=imgE m:=by unfold verE;rw[if_pos h0]
  rw[hv]
  unfold zCm at *
  skip
  repeat' first|apply en_n|apply zAG|apply zAA|apply zAD|apply w0|exact zGh rfl rfl|(refine zAd zHK hI (CoLA rfl))|refine aBox (hd:=rfl) (hro:=rfl) rfl rfl ?_|apply ay (hd:=rfl)|exact zAF rfl|exact zAB rfl|exact zBA rfl zCt rfl rfl rfl|refine zAI rfl ?_|apply zAQ|apply en_r|apply zAT|refine res1 rfl ?_
  all_goals rfl
end Go.Proofs.YtcagoomibpcdlaaGreatDoor
