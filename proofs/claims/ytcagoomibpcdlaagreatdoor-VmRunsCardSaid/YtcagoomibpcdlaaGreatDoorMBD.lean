import Derived.Test.YtcagoomibpcdlaaGreatDoorMBC
import Derived.Test.YtcagoomibpcdlaaGreatDoorMBE
set_option maxHeartbeats 16000000
namespace Go.Proofs.YtcagoomibpcdlaaGreatDoor
open _root_.Go.Proofs.Tryz
open Go.Sx Go.Vm
attribute [local irreducible] zAL Program.underlying Ylds zA2 alex zBZ zBP awp zAb zBh zBg zAW zBF zAp zCO zBG zBR zAr zBV zBY zBe zCQ zBM zA8 zBE
theorem zQF(E:List Ins)(hE:E.length<=2000000): zAb prog 72 [.slice (E.map enIn)] (i64 (asmE E)):=by
 refine zAj func72 rfl ntmps72 results72 rfl ?_
 intro wb St0
 repeat' first|apply en_n|apply zAE|apply zAA|apply zAB|apply w0|refine k0u (hd:=rfl) rfl rfl ?_|exact qcA [] [] zDg (zcB _ (fun i=>!zJV i) zMC zVV E hE)|exact qcA [0] [] zDg (zcA _ _ _ zMB (zVU E) E hE)|refine aBoA ?_|refine ayA rfl ?_|apply ay (hd:=rfl)|exact zHI rfl rfl|exact zME rfl|refine w1 rfl rfl ?_|(apply gD;exact rfl;exact rfl;all_goals intro hb)|refine zAJ rfl ?_|(apply zF1;exact rfl;all_goals intro hb)|apply zAP|apply zAM|apply en_r|apply zAS|refine res1 rfl ?_
 all_goals (refine congrArg D.val (congrArg (Value.int .i64) ?_))
 ·rw[asmE,if_pos (by rw[decide_eq_true (by omega:E.length>20000)];rfl)]
 ·rw[asmE,if_pos (by rw[hb];exact Bool.or_true _)]
 ·rename_i h1 h2;rw[asmE,if_neg (by rw[h2,decide_eq_false (by omega:¬E.length>20000)];decide),if_pos hb]
 ·rename_i h1 h2;rw[asmE,if_neg (by rw[h2,decide_eq_false (by omega:¬E.length>20000)];decide),if_neg (by rw[hb];decide)]
theorem zPw(m:Img)(hp:m.pool.length<=2000000)(hE:m.code.length<=2000000)(ht:∀c∈m.pool,c.text.length<=2000000): zAb prog 35 [zCs m] (i64 (imgE m)):=by
 refine zAj func35 rfl ntmps35 results35 rfl ?_
 intro wb St0
 unfold zCs
 repeat' first|apply en_n|apply zAE|apply zAA|apply zAB|apply w0|refine aBoA ?_|refine ayA rfl ?_|apply ay (hd:=rfl)|exact zHI rfl rfl|(apply zBO;exact rfl;all_goals intro hb)|apply zAO|apply zAP|apply zAM|apply en_r|apply zAS|refine res1 rfl ?_
 ·exact congrArg D.val (congrArg (Value.int .i64) (by unfold imgE;rw[if_pos (by omega)]))
 refine zBA (α:=Nat) (fun i=>i<=m.pool.length/\∀j,j<i->zD0 m.pool j=true) (fun i=>[(1,.ptr 0 0),(10,.d (.slice (m.pool.map enCn))),(11,.d (i64 (m.pool.length:Int))),(12,.d (i64 (i:Int)))]) (fun _=>[.box [.d (.slice (m.pool.map enCn)),.d (.slice (m.code.map enIn))]]) (fun i=>m.pool.length-i) 0 ⟨qAQ _,fun j h=>by omega⟩
  (zAU (Le_cons rfl (Le_cons rfl (Le_d rfl rfl (Le_d rfl rfl Le_nil)))) (zAK rfl rfl zAe) rfl rfl) ?_
 rintro i ⟨hi1,hi2⟩
 repeat' first|(refine zZy (id:=6) ?_)|(refine zCi (id:=9) ?_)|apply en_n|apply zAE|apply zAA|apply zAB|apply w0|(apply aI (hd:=rfl);(first|exact zA0 rfl|exact zBX rfl rfl rfl|exact Co_nn rfl);exact rfl;(with_reducible exact zC8);exact fun _=>rfl;rotate_left;intro v hv;rotate_right)|refine aAlA ?_|refine ayA rfl ?_|apply ay (hd:=rfl)|exact zES rfl rfl|(refine w0' ?_)|refine aStA ?_|(apply zBO;exact rfl;all_goals intro hb)|apply zAO|apply zAP|apply zBH|apply en_e|apply eb_e
 ·omega
 ·refine Stop.go ?_
  have hv':m.pool[i]?=some v:=hv
  have hil:i<m.pool.length:=(qAA.1 hv').1
  have hvd:m.pool.getD i default=v:=by rw[qAD,hv'];rfl
  have hR:=zW9 v (ht v (qAF hv'))
  cases hr:zGJ v
  ·rw[hr]at hR
   have hth:zD0 m.pool i=false:=by unfold zD0;rw[hvd,hr];rfl
   unfold enCn at *
   skip
   exact yQ
  ·rw[hr]at hR
   rcases Nat.eq_zero_or_pos i with h0|h0
   ·subst h0
    have hth:zD0 m.pool 0=true:=by unfold zD0;rw[hvd,hr];rfl
    unfold enCn at *
    skip
    exact yT
   ·obtain⟨u,hu⟩:∃u,m.pool[i-1]?=some u:=⟨_,qAB (by omega)⟩
    have hud:m.pool.getD (i-1) default=u:=by rw[qAD,hu];rfl
    have hL:=za2 u v
    have hth:zD0 m.pool i=zL7 u v:=by unfold zD0;rw[hvd,hud,hr,decide_eq_false (by omega)];rfl
    have hu':m.pool[((i:Int)-1).toNat]?=some u:=by rw[show ((i:Int)-1).toNat=i-1 by omega];exact hu
    cases hl:zL7 u v
    all_goals
     rw[hl]at hL hth
     unfold enCn at *
     skip
     repeat' first|apply en_n|apply zAE|apply zAA|apply zAB|apply w0|exact ycA zGx hR|exact ycA zNM hL|refine aJA ?_|refine ayA rfl ?_|refine ayQ rfl ?_|apply ay (hd:=rfl)|refine zBp rfl rfl ?_|refine zCe rfl rfl ?_|refine w1 rfl rfl ?_|refine zAJ rfl ?_|refine zAI rfl ?_|apply zAP|apply zAM|refine awDA ?_|apply en_r|apply eb_n|apply eb_r|apply zAS|refine res1 rfl ?_
     all_goals first
      |omega
      |exact congrArg D.val (congrArg (Value.int .i64) (by unfold imgE;rw[if_neg (by omega),if_neg (fun h=>by have:=qAb.1 h i (qBN.2 hil);rw[hth]at this;cases this)]))
      |exact⟨i+1,⟨by omega,fun j hj=>by
        rcases qAR j i with h1|h1
        ·exact hi2 j h1
        ·rw[show j=i by omega];exact hth⟩,by omega,zAU (Le_all rfl) (zAK rfl rfl zAe) rfl rfl⟩
 ·have hall:(List.range m.pool.length).all (zD0 m.pool)=true:=qAb.2 fun j hj=>hi2 j (by have:=qBN.1 hj;omega)
  have hA:=zQF m.code hE
  refine Stop.go ?_
  exact yW
theorem zJW{m:Img}(h:imgE m=0): ImgOk m:=by
 unfold imgE at h
 split at h
 ·omega
 rename_i h1
 split at h
 case isFalse=>omega
 rename_i h2
 unfold asmE at h
 split at h
 ·omega
 rename_i h3
 split at h
 ·omega
 rename_i h4
 simp only[qBq,decide_eq_true_eq,not_or]at h3
 refine⟨by omega,by omega,fun c hc=>?_,fun i hi=>?_⟩
 ·obtain⟨j,hj⟩:=qA1.1 hc
  have:=qAb.1 h2 j (qBN.2 (qAA.1 hj).1)
  unfold zD0 at this
  rw[qAD,hj]at this
  have hr:zGJ c=true:=(Bool.and_eq_true_iff.1 this).1
  unfold zGJ at hr
  split at hr
  ·rename_i ht
   simp only[qAV,decide_eq_true_eq]at hr
   exact⟨fun _=>hr.2,by rw[hr.1];rfl⟩
  ·rename_i ht
   simp only[qAV,decide_eq_true_eq]at hr
   exact⟨fun h=>absurd h ht,hr.2⟩
 ·have h5:zJV i=true:=by
   cases hq:zJV i with
   |true=>rfl
   |false=>exact absurd (List.any_eq_true.2 ⟨i,hi,by rw[hq];rfl⟩) h3.2
  have h6:(zHD i.op&&decide (i.a>=(m.code.length:Int)))=false:=by
   cases hq:(zHD i.op&&decide (i.a>=(m.code.length:Int)))with
   |false=>rfl
   |true=>exact absurd (List.any_eq_true.2 ⟨i,hi,hq⟩) h4
  simp only[zJV,zGg,zHk,qAV,decide_eq_true_eq]at h5
  refine⟨by omega,by omega,by omega,by omega,by omega,by omega,fun h15=>?_⟩
  have hg:zHD i.op=true:=by unfold zHD zGg;simp;omega
  rw[hg]at h6
  simp at h6
  omega
theorem CRun.fin_{con:List UInt8->Bool}{m:Img}(him:ImgOk m){T:CK}: ∀(n:Nat) (c:CK),c.mu<=n->CRun con m T c->(T.bad=true\/T.work=[])/\CRun con m T T:=by
 intro n
 induction n with
 |zero =>
  intro c hn h
  by_cases hd:c.bad=true\/c.work=[]
  ·have:=h.done hd;subst this;exact⟨hd,h⟩
  ·simp only[not_or,Bool.not_eq_true]at hd
   obtain⟨k,s,-,-,-,-,-,-,hmu⟩:=h.next him hd.1 hd.2
   omega
 |succ n ih =>
  intro c hn h
  by_cases hd:c.bad=true\/c.work=[]
  ·have:=h.done hd;subst this;exact⟨hd,h⟩
  ·simp only[not_or,Bool.not_eq_true]at hd
   obtain⟨k,s,-,-,-,-,-,h',hmu⟩:=h.next him hd.1 hd.2
   exact ih _ (by omega) h'
theorem zVS{con:List UInt8->Bool}{m:Img}(him:ImgOk m): (ckT con m).bad=false↔zR3 con m:=by
 obtain⟨h1,h2⟩:=CRun.fin_ him _ _ (qAP _) (zVT con m)
 exact h2.ok h1
def verE(m:Img): Int:=if imgE m≠0 then imgE m else if(ckT conF m).bad then 190 else 0
theorem zNt{m:Img}(h:verE m=0): ImgOk m/\zR3 conF m:=by
 unfold verE at h
 split at h
 ·contradiction
 rename_i h1
 have h1:imgE m=0:=by omega
 refine⟨zJW h1,(zVS (zJW h1)).1 ?_⟩
 cases hb:(ckT conF m).bad with
 |false=>rfl
 |true=>rw[hb]at h;exact absurd h (by decide)
theorem zV1(m:Img)(hp:m.pool.length<=2000000)(hE:m.code.length<=2000000)(ht:∀c∈m.pool,c.text.length<=2000000): zAb prog 18 [zCs m] (i64 (verE m)):=by
 have hI:=zPw m hp hE ht
 refine zAj func18 rfl ntmps18 results18 rfl ?_
 intro wb St0
 by_cases h0:imgE m=0
 ·have hC:=zYE m (zJW h0) _ rfl
  rw[h0]at hI
  have hv:verE m=if(ckT conF m).bad then 190 else 0:=by unfold verE;rw[if_neg (by omega)]
  rw[hv]
  cases hb:(ckT conF m).bad
  all_goals
   rw[hb]at hC
   unfold zCs at *
   skip
   exact yC
 ·have hv:verE m=imgE m:=by unfold verE;rw[if_pos h0]
  rw[hv]
  unfold zCs at *
  skip
  exact yC
