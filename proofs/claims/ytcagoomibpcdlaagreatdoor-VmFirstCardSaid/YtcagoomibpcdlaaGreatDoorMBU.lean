/- Parts of the proof. -/
import Derived.Test.YtcagoomibpcdlaaGreatDoorMBT
set_option maxHeartbeats 16000000
namespace Go.Proofs.YtcagoomibpcdlaaGreatDoor
open _root_.Go.Proofs.Tryz
open Go.Sx Go.Vm
attribute [local irreducible] zAN Program.underlying Ylds zA9 alex zB3 zBf awp zAi zCC zCB zAU zBl zAz zDt zBq zBj zBB zBr zB2 zB8 zD7 zBi zBd zBg
theorem zNQ(E:List Ins)(hE:E.length<=2000000): zAi prog 72 [.slice (E.map enIn)] (i64 (asmE E)):=by
 refine zAs func72 rfl ntmps72 results72 rfl ?_
 intro wb St0
 repeat' first|apply en_n|apply zAH|apply zAA|apply zAD|apply w0|(apply k0u (hd:=rfl);exact rfl;exact rfl)|(refine zAW [] [] rfl rfl zDB (zXu _ (fun i=>!zHp i) zJ2 zRk E hE) rfl (SArgs_all rfl) rfl (by decide) rfl rfl rfl rfl)|(refine zAW [0] [] rfl rfl zDB (zXt _ _ _ zJ1 (zRj E) E hE) rfl (SArgs_all rfl) rfl (by decide) rfl rfl rfl rfl)|(apply aBox (hd:=rfl) (hro:=rfl);exact rfl;exact rfl)|apply ay (hd:=rfl)|exact zAF rfl|exact zAB rfl|exact zBI rfl zEd|exact zGG rfl rfl|exact zAa rfl rfl|exact zAX rfl rfl|exact zAE rfl zBo rfl rfl|exact zJ3 rfl|refine w1 rfl rfl ?_|(apply gD;exact rfl;exact rfl;all_goals intro hb)|refine zAI rfl ?_|(apply zEt;exact rfl;all_goals intro hb)|apply zAS|apply zAQ|apply en_r|apply zAR|refine res1 rfl ?_
 all_goals (refine congrArg D.val (congrArg (Value.int .i64) ?_))
 ·rw[asmE,if_pos (by rw[decide_eq_true (by omega:E.length>20000)];rfl)]
 ·rw[asmE,if_pos (by rw[hb];exact Bool.or_true _)]
 ·rename_i h1 h2;rw[asmE,if_neg (by rw[h2,decide_eq_false (by omega:¬E.length>20000)];decide),if_pos hb]
 ·rename_i h1 h2;rw[asmE,if_neg (by rw[h2,decide_eq_false (by omega:¬E.length>20000)];decide),if_neg (by rw[hb];decide)]
theorem zM7(m:Img)(hp:m.pool.length<=2000000)(hE:m.code.length<=2000000)(ht:∀c∈m.pool,c.text.length<=2000000): zAi prog 35 [zDH m] (i64 (imgE m)):=by
 refine zAs func35 rfl ntmps35 results35 rfl ?_
 intro wb St0
 unfold zDH
 repeat' first|apply en_n|apply zAH|apply zAA|apply zAD|apply w0|(apply aBox (hd:=rfl) (hro:=rfl);exact rfl;exact rfl)|apply ay (hd:=rfl)|exact zAF rfl|exact zAB rfl|exact zBI rfl zDz|exact zGG rfl rfl|exact zAC rfl zCM|exact zAE rfl zAv rfl rfl|(apply zBT;exact rfl;all_goals intro hb)|apply zAL|apply zAS|apply zAQ|apply en_r|apply zAR|refine res1 rfl ?_
 ·exact congrArg D.val (congrArg (Value.int .i64) (by unfold imgE;rw[if_pos (by omega)]))
 refine zBW (α:=Nat) (fun i=>i<=m.pool.length/\∀j,j<i->zDL m.pool j=true) (fun i=>[(1,.ptr 0 0),(10,.d (.slice (m.pool.map enCn))),(11,.d (i64 (m.pool.length:Int))),(12,.d (i64 (i:Int)))]) (fun _=>[.box [.d (.slice (m.pool.map enCn)),.d (.slice (m.code.map enIn))]]) (fun i=>m.pool.length-i) 0 ⟨qAX _,fun j h=>by omega⟩
  (zAT (Le_cons rfl (Le_cons rfl (Le_d rfl rfl (Le_d rfl rfl Le_nil)))) (zAO rfl rfl zAt) rfl rfl) ?_
 rintro i ⟨hi1,hi2⟩
 repeat' first|(refine zVx (id:=6) ?_)|(refine zEj (id:=9) ?_)|apply en_n|apply zAH|apply zAA|apply zAD|apply w0|(apply aI (hd:=rfl);(first|exact zCW rfl|exact zC3 rfl rfl rfl|exact Co_nn rfl);exact rfl;(with_reducible exact zCd);exact fun _=>rfl;rotate_left;intro v hv;rotate_right)|(apply zDI (hd:=rfl) (hro:=rfl);(with_reducible exact zI3))|apply ay (hd:=rfl)|exact zAF rfl|exact zAB rfl|exact zBH rfl zDy rfl|exact zEw rfl rfl|(refine w0' ?_)|refine zAh rfl rfl rfl zDy rfl rfl rfl rfl ?_|(apply zBT;exact rfl;all_goals intro hb)|apply zAL|apply zAS|apply zBc|apply en_e|apply eb_e
 ·omega
 ·refine Stop.go ?_
  have hv':m.pool[i]?=some v:=hv
  have hil:i<m.pool.length:=(qAA.1 hv').1
  have hvd:m.pool.getD i default=v:=by rw[qAD,hv'];rfl
  have hR:=zTL v (ht v (qAK hv'))
  cases hr:zFA v
  ·rw[hr]at hR
   have hth:zDL m.pool i=false:=by unfold zDL;rw[hvd,hr];rfl
   unfold enCn at *
   skip
   repeat' first|apply en_n|apply zAH|apply zAA|apply zAD|apply w0|(apply kUd (hd:=rfl);exact rfl;exact rfl)|(apply k0ud (hd:=rfl);exact rfl;exact rfl)|(refine zAb zFf hR (zAY rfl zAM))|apply ay (hd:=rfl)|exact zAF rfl|exact zAB rfl|exact zBX rfl|exact zAa rfl rfl|exact zA4 rfl zDy rfl rfl rfl|refine zAI rfl ?_|apply zAQ|refine zAj (by kernel_rfl) (by kernel_rfl) ?_|apply en_r|apply eb_r|apply zAR|refine res1 rfl ?_
   exact congrArg D.val (congrArg (Value.int .i64) (by unfold imgE;rw[if_neg (by omega),if_neg (fun h=>by have:=qAV.1 h i (qBL.2 hil);rw[hth]at this;cases this)]))
  ·rw[hr]at hR
   rcases Nat.eq_zero_or_pos i with h0|h0
   ·subst h0
    have hth:zDL m.pool 0=true:=by unfold zDL;rw[hvd,hr];rfl
    unfold enCn at *
    skip
    repeat' first|apply en_n|apply zAA|apply zAD|apply w0|(apply k1ud (hd:=rfl);exact rfl;exact rfl)|exact zDs rfl rfl|(refine zAb zFf hR (zAY rfl zAM))|apply ay (hd:=rfl)|exact zAF rfl|refine zBE rfl rfl ?_|exact zBX rfl|exact zAX rfl rfl|exact zA4 rfl zDy rfl rfl rfl|refine w1 rfl rfl ?_|refine zAJ rfl ?_|apply zAS|refine zAj (by kernel_rfl) (by kernel_rfl) ?_|apply eb_n
    ·omega
    ·exact⟨1,⟨by omega,fun j hj=>by rw[show j=0 by omega];exact hth⟩,by omega,zAT (Le_all rfl) (zAO rfl rfl zAt) rfl rfl⟩
   ·obtain⟨u,hu⟩:∃u,m.pool[i-1]?=some u:=⟨_,qAB (by omega)⟩
    have hud:m.pool.getD (i-1) default=u:=by rw[qAD,hu];rfl
    have hL:=zWo u v
    have hth:zDL m.pool i=zJw u v:=by unfold zDL;rw[hvd,hud,hr,decide_eq_false (by omega)];rfl
    have hu':m.pool[((i:Int)-1).toNat]?=some u:=by rw[show ((i:Int)-1).toNat=i-1 by omega];exact hu
    cases hl:zJw u v
    all_goals
     rw[hl]at hL hth
     unfold enCn at *
     skip
     repeat' first|apply en_n|apply zAH|apply zAA|apply zAD|apply w0|exact zEk rfl rfl|(refine zAb zFf hR (zAY rfl zAM))|(refine zAb zK2 hL (zAY rfl (zAY rfl zAM)))|(apply aJ (hd:=rfl);(first|exact zCW rfl|exact zC3 rfl rfl rfl|exact Co_nn rfl);exact rfl;(with_reducible exact zCd);assumption;omega;exact fun _=>rfl)|apply ay (hd:=rfl)|exact zAF rfl|exact zAB rfl|exact zBH rfl zDy rfl|refine zBE rfl rfl ?_|refine zDb rfl rfl ?_|exact zBX rfl|exact zAa rfl rfl|exact zAX rfl rfl|exact zAC rfl zCM|exact zAE rfl zAv rfl rfl|exact zA4 rfl zDy rfl rfl rfl|refine w1 rfl rfl ?_|refine zAI rfl ?_|refine zAJ rfl ?_|apply zAS|apply zAQ|refine zAj (by kernel_rfl) (by kernel_rfl) ?_|apply en_r|apply eb_n|apply eb_r|apply zAR|refine res1 rfl ?_
     all_goals first
      |omega
      |exact congrArg D.val (congrArg (Value.int .i64) (by unfold imgE;rw[if_neg (by omega),if_neg (fun h=>by have:=qAV.1 h i (qBL.2 hil);rw[hth]at this;cases this)]))
      |exact⟨i+1,⟨by omega,fun j hj=>by
        rcases qAR j i with h1|h1
        ·exact hi2 j h1
        ·rw[show j=i by omega];exact hth⟩,by omega,zAT (Le_all rfl) (zAO rfl rfl zAt) rfl rfl⟩
 ·have hall:(List.range m.pool.length).all (zDL m.pool)=true:=qAV.2 fun j hj=>hi2 j (by have:=qBL.1 hj;omega)
  have hA:=zNQ m.code hE
  refine Stop.go ?_
  repeat' first|apply en_n|apply zAH|apply zAA|apply zAD|apply w0|(refine zAb zL4 hA (zAY rfl zAM))|apply ay (hd:=rfl)|exact zAB rfl|exact zAC rfl zBD|exact zAE rfl zBo rfl rfl|apply zAQ|apply zAR|refine res1 rfl ?_
  exact congrArg D.val (congrArg (Value.int .i64) (by unfold imgE;rw[if_neg (by omega),if_pos hall]))
theorem zHq{m:Img}(h:imgE m=0): ImgOk m:=by
 unfold imgE at h
 split at h
 ·omega
 rename_i h1
 split at h
 case isFalse=>omega
 rename_i h2
 unfold asmE at h
 split at h
 ·omega
 rename_i h3
 split at h
 ·omega
 rename_i h4
 simp only[qBp,decide_eq_true_eq,not_or]at h3
 refine⟨by omega,by omega,fun c hc=>?_,fun i hi=>?_⟩
 ·obtain⟨j,hj⟩:=qAu.1 hc
  have:=qAV.1 h2 j (qBL.2 (qAA.1 hj).1)
  unfold zDL at this
  rw[qAD,hj]at this
  have hr:zFA c=true:=(Bool.and_eq_true_iff.1 this).1
  unfold zFA at hr
  split at hr
  ·rename_i ht
   simp only[qAZ,decide_eq_true_eq]at hr
   exact⟨fun _=>hr.2,by rw[hr.1];rfl⟩
  ·rename_i ht
   simp only[qAZ,decide_eq_true_eq]at hr
   exact⟨fun h=>absurd h ht,hr.2⟩
 ·have h5:zHp i=true:=by
   cases hq:zHp i with
   |true=>rfl
   |false=>exact absurd (List.any_eq_true.2 ⟨i,hi,by rw[hq];rfl⟩) h3.2
  have h6:(zFt i.op&&decide (i.a>=(m.code.length:Int)))=false:=by
   cases hq:(zFt i.op&&decide (i.a>=(m.code.length:Int)))with
   |false=>rfl
   |true=>exact absurd (List.any_eq_true.2 ⟨i,hi,hq⟩) h4
  simp only[zHp,zFS,zGL,qAZ,decide_eq_true_eq]at h5
  refine⟨by omega,by omega,by omega,by omega,by omega,by omega,fun h15=>?_⟩
  have hg:zFt i.op=true:=by unfold zFt zFS;simp;omega
  rw[hg]at h6
  simp at h6
  omega
theorem CRun.fin_{con:List UInt8->Bool}{m:Img}(him:ImgOk m){T:CK}: ∀(n:Nat) (c:CK),c.mu<=n->CRun con m T c->(T.bad=true\/T.work=[])/\CRun con m T T:=by
 intro n
 induction n with
 |zero =>
  intro c hn h
  by_cases hd:c.bad=true\/c.work=[]
  ·have:=h.done hd;subst this;exact⟨hd,h⟩
  ·simp only[not_or,Bool.not_eq_true]at hd
   obtain⟨k,s,-,-,-,-,-,-,hmu⟩:=h.next him hd.1 hd.2
   omega
 |succ n ih =>
  intro c hn h
  by_cases hd:c.bad=true\/c.work=[]
  ·have:=h.done hd;subst this;exact⟨hd,h⟩
  ·simp only[not_or,Bool.not_eq_true]at hd
   obtain⟨k,s,-,-,-,-,-,h',hmu⟩:=h.next him hd.1 hd.2
   exact ih _ (by omega) h'
theorem zRh{con:List UInt8->Bool}{m:Img}(him:ImgOk m): (ckT con m).bad=false↔zP6 con m:=by
 obtain⟨h1,h2⟩:=CRun.fin_ him _ _ (qAN _) (zRi con m)
 exact h2.ok h1
def verE(m:Img): Int:=if imgE m≠0 then imgE m else if(ckT conF m).bad then 190 else 0
theorem zHV{m:Img}(h:verE m=0): ImgOk m/\zP6 conF m:=by
 unfold verE at h
 split at h
 ·contradiction
 rename_i h1
 have h1:imgE m=0:=by omega
 refine⟨zHq h1,(zRh (zHq h1)).1 ?_⟩
 cases hb:(ckT conF m).bad with
 |false=>rfl
 |true=>rw[hb]at h;exact absurd h (by decide)
theorem zSI(m:Img)(hp:m.pool.length<=2000000)(hE:m.code.length<=2000000)(ht:∀c∈m.pool,c.text.length<=2000000): zAi prog 18 [zDH m] (i64 (verE m)):=by
 have hI:=zM7 m hp hE ht
 refine zAs func18 rfl ntmps18 results18 rfl ?_
 intro wb St0
 by_cases h0:imgE m=0
 ·have hC:=zUP m (zHq h0) _ rfl
  rw[h0]at hI
  have hv:verE m=if(ckT conF m).bad then 190 else 0:=by unfold verE;rw[if_neg (by omega)]
  rw[hv]
  cases hb:(ckT conF m).bad
  all_goals
   rw[hb]at hC
   unfold zDH at *
   skip
   repeat' first|apply en_n|apply zAH|apply zAA|apply zAD|apply w0|exact zFI rfl rfl|(refine zAb zG8 hI (zAY rfl zAM))|(refine zAb zJR hC (zAY rfl zAM))|(apply aBox (hd:=rfl) (hro:=rfl);exact rfl;exact rfl)|apply ay (hd:=rfl)|exact zAF rfl|exact zAB rfl|exact zBX rfl|exact zAg rfl rfl|exact zA4 rfl zCo rfl rfl rfl|refine zAI rfl ?_|refine zAJ rfl ?_|apply zAS|apply zAQ|apply en_r|apply zAR|refine res1 rfl ?_
   all_goals rfl
 ·have hv:verE m=imgE m:=by unfold verE;rw[if_pos h0]
  rw[hv]
  unfold zDH at *
  skip
  repeat' first|apply en_n|apply zAH|apply zAA|apply zAD|apply w0|exact zGI rfl rfl|(refine zAb zG8 hI (zAY rfl zAM))|(apply aBox (hd:=rfl) (hro:=rfl);exact rfl;exact rfl)|apply ay (hd:=rfl)|exact zAF rfl|exact zAB rfl|exact zA4 rfl zCo rfl rfl rfl|refine zAI rfl ?_|apply zAQ|apply en_r|apply zAR|refine res1 rfl ?_
  all_goals rfl
end Go.Proofs.YtcagoomibpcdlaaGreatDoor
