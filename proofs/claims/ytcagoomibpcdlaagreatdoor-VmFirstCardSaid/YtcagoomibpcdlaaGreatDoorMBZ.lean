/- Parts of the proof. -/
import Derived.Test.YtcagoomibpcdlaaGreatDoorMBY
set_option maxHeartbeats 16000000
namespace Go.Proofs.YtcagoomibpcdlaaGreatDoor
open _root_.Go.Proofs.Tryz
open Go.Sx Go.Vm
attribute [local irreducible] zAN Program.underlying Ylds zA9 alex zB3 zBf awp zAi zCC zCB zAU zBl zAz zDt zBq zBj zBB zBr zB2 zB8 zD7 zBi zBd zBg
theorem zPC(c:Cn): zAi prog 32 [enCn c] (bl (zFA c)):=by
 obtain⟨t,n,s⟩:=c
 have hW:=zTW n
 refine zAs func32 rfl ntmps32 results32 rfl ?_
 intro wb St0
 unfold enCn
 cases t
 ·by_cases hs:s=[]
  ·skip
   repeat' first|apply en_n|apply zAH|apply zAA|apply zAD|apply w0|(apply zVT;exact rfl;exact rfl;assumption)|(refine zAb zUA hW (zAY rfl zAM))|(apply aBox (hd:=rfl) (hro:=rfl);exact rfl;exact rfl)|apply ay (hd:=rfl)|exact zAF rfl|exact zAB rfl|exact zFN rfl rfl|exact zAa rfl rfl|(apply zAC;exact rfl;(with_reducible first|exact zCZ|exact zDD|exact zCp))|(apply zAE;exact rfl;(with_reducible first|exact zD1|exact zDk|exact zAc);exact rfl;exact rfl)|refine w1 rfl rfl ?_|refine zAJ rfl ?_|apply zAS|apply zAQ|refine zAj (by kernel_rfl) (by kernel_rfl) ?_|apply zAR|refine res1 rfl ?_
   all_goals apply zDi
   all_goals simp[zFA,hs]at *
   all_goals first|omega|exact Iff.rfl
  ·skip
   repeat' first|apply en_n|apply zAH|apply zAA|apply zAD|apply w0|(apply zVU;exact rfl;exact rfl;assumption)|(apply aBox (hd:=rfl) (hro:=rfl);exact rfl;exact rfl)|apply ay (hd:=rfl)|exact zAF rfl|exact zAB rfl|exact zAX rfl rfl|(apply zAC;exact rfl;(with_reducible first|exact zCZ|exact zCp))|(apply zAE;exact rfl;(with_reducible first|exact zDk|exact zAc);exact rfl;exact rfl)|(apply k1 (hd:=rfl);exact rfl;exact rfl)|refine zAJ rfl ?_|apply zAS|apply zAQ|refine zAj (by kernel_rfl) (by kernel_rfl) ?_|apply zAR|refine res1 rfl ?_
   all_goals apply zDi
   all_goals simp[zFA,hs]at *
   all_goals first|omega|exact Iff.rfl
 ·by_cases hs:n=0
  ·skip
   repeat' first|apply en_n|apply zAH|apply zAA|apply zAD|apply w0|exact zAk rfl rfl|(apply zEh;exact rfl;with_reducible exact ustr)|(apply aBox (hd:=rfl) (hro:=rfl);exact rfl;exact rfl)|apply ay (hd:=rfl)|exact zAF rfl|exact zAB rfl|exact zIY rfl rfl|exact zAa rfl rfl|(apply zAC;exact rfl;(with_reducible first|exact zCZ|exact zDD|exact zCp))|(apply zAE;exact rfl;(with_reducible first|exact zD1|exact zDk|exact zAc);exact rfl;exact rfl)|refine w1 rfl rfl ?_|refine zAI rfl ?_|apply zAQ|apply en_r|apply zAR|refine res1 rfl ?_
   all_goals apply zDi
   all_goals simp[zFA,hs]at *
   all_goals first|omega|exact Iff.rfl
  ·skip
   repeat' first|apply en_n|apply zAH|apply zAA|apply zAD|apply w0|(apply k1u (hd:=rfl);exact rfl;exact rfl)|exact zAm rfl rfl|(apply aBox (hd:=rfl) (hro:=rfl);exact rfl;exact rfl)|apply ay (hd:=rfl)|exact zAF rfl|exact zAB rfl|exact zAX rfl rfl|(apply zAC;exact rfl;(with_reducible first|exact zCZ|exact zDD))|(apply zAE;exact rfl;(with_reducible first|exact zD1|exact zAc);exact rfl;exact rfl)|refine zAI rfl ?_|apply zAQ|apply en_r|apply zAR|refine res1 rfl ?_
   all_goals apply zDi
   all_goals simp[zFA,hs]at *
   all_goals first|omega|exact Iff.rfl
theorem zQi(a b:Cn): zAi prog 33 [enCn a,enCn b] (bl (zJw a b)):=by
 obtain⟨t,n,s⟩:=a
 obtain⟨t',n',s'⟩:=b
 refine zAs func33 rfl ntmps33 results33 rfl ?_
 intro wb St0
 unfold enCn
 cases t <;> cases t'
 all_goals
  dsimp only
  repeat' first|apply en_n|apply zAH|apply zAA|apply zAD|apply w0|(apply kU (hd:=rfl);exact rfl;exact rfl)|(apply k1u (hd:=rfl);exact rfl;exact rfl)|(apply k0u (hd:=rfl);exact rfl;exact rfl)|(refine zVQ rfl rfl)|(apply aBox (hd:=rfl) (hro:=rfl);exact rfl;exact rfl)|apply ay (hd:=rfl)|exact zAF rfl|exact zAB rfl|exact zEw rfl rfl|exact zBX rfl|exact zAa rfl rfl|exact zAX rfl rfl|(apply zAC;exact rfl;(with_reducible first|exact zCZ|exact zDD|exact zCp))|(apply zAE;exact rfl;(with_reducible first|exact zD1|exact zDk|exact zAc);exact rfl;exact rfl)|refine w1 rfl rfl ?_|(apply g1;exact rfl;exact rfl;all_goals intro hb)|apply zAQ|apply zAR|refine res1 rfl ?_
  all_goals first|rfl|(exfalso;simp_all;done)|(apply zDi;simp[zJw];done)|(apply zDi;simp_all [zJw];done)
theorem zLf(E:List Ins)(hE:E.length<=2000000): zAi prog 34 [.slice (E.map enIn)] (i64 (asmE E)):=by
 refine zAs func34 rfl ntmps34 results34 rfl ?_
 intro wb St0
 repeat' first|apply en_n|apply zAH|apply zAA|apply zAD|apply w0|apply ay (hd:=rfl)|exact zAF rfl|exact zAB rfl|exact zBI rfl zEd|exact zGG rfl rfl|(apply zBT;exact rfl;all_goals intro hb)|apply zAL|apply zAS|apply zAQ|apply en_r|apply zAR|refine res1 rfl ?_
 ·refine congrArg D.val (congrArg (Value.int .i64) ?_)
  rw[asmE,if_pos (by rw[decide_eq_true (by omega:E.length>20000)];rfl)]
 have hlen:¬E.length>20000:=by omega
 refine zBW (α:=Nat) (fun i=>i<=E.length/\∀(j:Nat) u,j<i->E[j]?=some u->zHp u=true) (fun i=>[(0,.d (.slice (E.map enIn))),(3,.d (i64 (i:Int)))]) (fun _=>[]) (fun i=>E.length-i) 0 ⟨qAX _,fun j u h=>by omega⟩
  (zAT (Le_all rfl) zAt rfl rfl) ?_
 rintro i ⟨hi1,hi2⟩
 repeat' first|(refine zEj (id:=8) ?_)|apply en_n|apply zAH|apply zAA|apply zAD|apply w0|(refine zAb zJ0 (zLd _) (zAY rfl zAM))|(apply aI (hd:=rfl);(first|exact zCW rfl|exact zC3 rfl rfl rfl|exact Co_nn rfl);exact rfl;(with_reducible exact zBh);exact fun _=>rfl;rotate_left;intro v hv;rotate_right)|apply ay (hd:=rfl)|exact zAF rfl|exact zAB rfl|exact zBH rfl zA3 rfl|exact zBI rfl zEd|exact zEw rfl rfl|refine zBE rfl rfl ?_|exact zBX rfl|(apply zBT;exact rfl;all_goals intro hb)|(apply zEt;exact rfl;all_goals intro hb)|apply zAL|apply zAS|apply zAQ|apply zBc|apply en_r|apply en_e|apply eb_n|apply eb_r|apply eb_e|apply zAR|refine res1 rfl ?_
 ·omega
 ·refine congrArg D.val (congrArg (Value.int .i64) ?_)
  have hv':E[i]?=some v:=hv
  have:E.any (fun i=>!zHp i)=true:=List.any_eq_true.2 ⟨v,qAK hv',by simpa using hb⟩
  rw[asmE,if_pos (by rw[this];exact Bool.or_true _)]
 ·omega
 ·refine⟨i+1,⟨by omega,fun j u hj hu=>?_⟩,by omega,zAT (Le_all rfl) zAt rfl rfl⟩
  rcases qAR j i with h1|h1
  ·exact hi2 j u h1 hu
  ·have hv':E[i]?=some v:=hv
   rw[show j=i by omega,hv']at hu;injection hu with hu;subst hu;simpa using hb
 refine Stop.go ?_
 have hok:E.any (fun i=>!zHp i)=false:=by
  refine List.any_eq_false.2 fun u hu=>?_
  obtain⟨j,hj⟩:=qAu.1 hu
  rw[hi2 j u (by have:=(qAA.1 hj).1;omega) hj];decide
 clear hi1 hi2 hb
 repeat' first|apply en_n|apply zAH|apply zAA|apply zAD|apply w0|apply ay (hd:=rfl)|exact zAB rfl|apply zAL
 refine zBW (α:=Nat) (fun i=>i<=E.length/\∀(j:Nat) u,j<i->E[j]?=some u->(zFt u.op&&decide (u.a>=(E.length:Int)))=false) (fun i=>[(0,.d (.slice (E.map enIn))),(4,.d (i64 (i:Int)))]) (fun _=>[]) (fun i=>E.length-i) 0 ⟨qAX _,fun j u h=>by omega⟩
  (zAT (Le_all rfl) zAt rfl rfl) ?_
 rintro i ⟨hi1,hi2⟩
 repeat' first|apply en_n|apply zAH|apply zAA|apply zAD|apply w0|(apply k1u (hd:=rfl);exact rfl;exact rfl)|(refine zAb zF9 (zNu _) (zAY rfl zAM))|(apply aJ (hd:=rfl);(first|exact zCW rfl|exact zC3 rfl rfl rfl|exact Co_nn rfl);exact rfl;(with_reducible exact zBh);assumption;omega;exact fun _=>rfl)|(apply aI (hd:=rfl);(first|exact zCW rfl|exact zC3 rfl rfl rfl|exact Co_nn rfl);exact rfl;(with_reducible exact zBh);exact fun _=>rfl;rotate_left;intro v hv;rotate_right)|apply ay (hd:=rfl)|exact zAF rfl|exact zAB rfl|(apply zDc;exact rfl;(with_reducible first|exact zBA|exact zAp))|(apply zCb;exact rfl;(with_reducible first|exact zAd|exact zAP))|exact zBI rfl zEd|exact zEw rfl rfl|exact zJp rfl rfl|refine zBE rfl rfl ?_|exact zAa rfl rfl|exact zAX rfl rfl|refine w1 rfl rfl ?_|(apply g1;exact rfl;exact rfl;all_goals intro hb)|(apply zBT;exact rfl;all_goals intro hb)|refine zAJ rfl ?_|apply zAL|apply zAS|apply zAQ|apply zBc|apply en_r|apply en_e|apply eb_n|apply eb_r|apply eb_e|apply zAR|refine res1 rfl ?_
 ·omega
 ·rename_i hg
  refine congrArg D.val (congrArg (Value.int .i64) ?_)
  have hv':E[i]?=some v:=hv
  have:E.any (fun i=>zFt i.op&&decide (i.a>=(E.length:Int)))=true:=List.any_eq_true.2 ⟨v,qAK hv',by rw[hg,decide_eq_true hb];rfl⟩
  rw[asmE,if_neg (by rw[hok,decide_eq_false hlen];decide),if_pos this]
 ·omega
 ·rename_i hg
  refine⟨i+1,⟨by omega,fun j u hj hu=>?_⟩,by omega,zAT (Le_all rfl) zAt rfl rfl⟩
  rcases qAR j i with h1|h1
  ·exact hi2 j u h1 hu
  ·have hv':E[i]?=some v:=hv
   rw[show j=i by omega,hv']at hu;injection hu with hu;subst hu;rw[hg,decide_eq_false hb];rfl
 ·omega
 ·refine⟨i+1,⟨by omega,fun j u hj hu=>?_⟩,by omega,zAT (Le_all rfl) zAt rfl rfl⟩
  rcases qAR j i with h1|h1
  ·exact hi2 j u h1 hu
  ·have hv':E[i]?=some v:=hv
   rw[show j=i by omega,hv']at hu;injection hu with hu;subst hu;rw[hb];rfl
 ·refine congrArg D.val (congrArg (Value.int .i64) ?_)
  have:E.any (fun i=>zFt i.op&&decide (i.a>=(E.length:Int)))=false:=by
   refine List.any_eq_false.2 fun u hu=>?_
   obtain⟨j,hj⟩:=qAu.1 hu
   rw[hi2 j u (by have:=(qAA.1 hj).1;omega) hj];decide
  rw[asmE,if_neg (by rw[hok,decide_eq_false hlen];decide),if_neg (by rw[this];decide)]
theorem zLe(m:Img)(hE:m.code.length<=2000000): zAi prog 16 [zDH m] (i64 (imgE m)):=by
 refine zAs func16 rfl ntmps16 results16 rfl ?_
 intro wb St0
 unfold zDH
 repeat' first|apply en_n|apply zAH|apply zAA|apply zAD|apply w0|(apply aBox (hd:=rfl) (hro:=rfl);exact rfl;exact rfl)|apply ay (hd:=rfl)|exact zAB rfl|exact zBI rfl zDz|exact zGG rfl rfl|exact zAC rfl zCM|exact zAE rfl zAv rfl rfl|(apply zBT;exact rfl;all_goals intro hb)|apply zAL|apply zAS|apply zAQ|apply en_r|apply zAR|refine res1 rfl ?_
 ·exact congrArg D.val (congrArg (Value.int .i64) (by unfold imgE;rw[if_pos (by omega)]))
 refine zBW (α:=Nat) (fun i=>i<=m.pool.length/\∀j,j<i->zDL m.pool j=true) (fun i=>[(1,.ptr 0 0),(3,.d (i64 (i:Int)))]) (fun _=>[.box [.d (.slice (m.pool.map enCn)),.d (.slice (m.code.map enIn))]]) (fun i=>m.pool.length-i) 0 ⟨qAX _,fun j h=>by omega⟩
  (zAT (Le_all rfl) (zAO rfl rfl zAt) rfl rfl) ?_
 rintro i ⟨hi1,hi2⟩
 repeat' first|(refine zVx (id:=6) ?_)|(refine zEj (id:=8) ?_)|apply en_n|apply zAH|apply zAA|apply zAD|apply w0|apply ay (hd:=rfl)|exact zAF rfl|exact zBI rfl zDz|exact zEw rfl rfl|exact zAC rfl zCM|exact zAE rfl zAv rfl rfl|(apply zBT;exact rfl;all_goals intro hb)|apply zAL|apply zAS|apply zBc|apply en_e|apply eb_e
 ·refine Stop.go ?_
  have hil:i<m.pool.length:=by omega
  obtain⟨v,hv'⟩:∃v,m.pool[i]?=some v:=⟨_,qAB hil⟩
  have hvd:m.pool.getD i default=v:=by rw[qAD,hv'];rfl
  have hR:=zPC v
  cases hr:zFA v
  ·rw[hr]at hR
   have hth:zDL m.pool i=false:=by unfold zDL;rw[hvd,hr];rfl
   unfold enCn at *
   skip
   repeat' first|apply en_n|apply zAH|apply zAA|apply zAD|apply w0|(apply kUd (hd:=rfl);exact rfl;exact rfl)|(apply k0ud (hd:=rfl);exact rfl;exact rfl)|(refine zAb zFd hR (zAY rfl zAM))|(apply aJ (hd:=rfl);(first|exact zCW rfl|exact zC3 rfl rfl rfl|exact Co_nn rfl);exact rfl;(with_reducible exact zCd);assumption;omega;exact fun _=>rfl)|apply ay (hd:=rfl)|exact zAF rfl|exact zAB rfl|exact zBH rfl zDy rfl|exact zBX rfl|exact zAa rfl rfl|exact zAC rfl zCM|exact zAE rfl zAv rfl rfl|refine zAI rfl ?_|apply zAQ|refine zAj (by kernel_rfl) (by kernel_rfl) ?_|apply en_r|apply eb_r|apply zAR|refine res1 rfl ?_
   exact congrArg D.val (congrArg (Value.int .i64) (by unfold imgE;rw[if_neg (by omega),if_neg (fun h=>by have:=qAV.1 h i (qBL.2 hil);rw[hth]at this;cases this)]))
  ·rw[hr]at hR
   rcases Nat.eq_zero_or_pos i with h0|h0
   ·subst h0
    have hth:zDL m.pool 0=true:=by unfold zDL;rw[hvd,hr];rfl
    unfold enCn at *
    skip
    repeat' first|apply en_n|apply zAA|apply zAD|apply w0|(apply k1ud (hd:=rfl);exact rfl;exact rfl)|exact zDs rfl rfl|(refine zAb zFd hR (zAY rfl zAM))|(apply aJ (hd:=rfl);(first|exact zCW rfl|exact zC3 rfl rfl rfl|exact Co_nn rfl);exact rfl;(with_reducible exact zCd);assumption;omega;exact fun _=>rfl)|apply ay (hd:=rfl)|exact zAF rfl|exact zAB rfl|exact zBH rfl zDy rfl|refine zBE rfl rfl ?_|exact zBX rfl|exact zAX rfl rfl|exact zAC rfl zCM|exact zAE rfl zAv rfl rfl|refine w1 rfl rfl ?_|refine zAJ rfl ?_|apply zAS|refine zAj (by kernel_rfl) (by kernel_rfl) ?_|apply eb_n
    ·omega
    ·exact⟨1,⟨by omega,fun j hj=>by rw[show j=0 by omega];exact hth⟩,by omega,zAT (Le_all rfl) (zAO rfl rfl zAt) rfl rfl⟩
   ·obtain⟨u,hu⟩:∃u,m.pool[i-1]?=some u:=⟨_,qAB (by omega)⟩
    have hud:m.pool.getD (i-1) default=u:=by rw[qAD,hu];rfl
    have hL:=zQi u v
    have hth:zDL m.pool i=zJw u v:=by unfold zDL;rw[hvd,hud,hr,decide_eq_false (by omega)];rfl
    have hu':m.pool[((i:Int)-1).toNat]?=some u:=by rw[show ((i:Int)-1).toNat=i-1 by omega];exact hu
    cases hl:zJw u v
    all_goals
     rw[hl]at hL hth
     unfold enCn at *
     skip
     repeat' first|apply en_n|apply zAH|apply zAA|apply zAD|apply w0|exact zEk rfl rfl|(refine zAb zFd hR (zAY rfl zAM))|(refine zAb zK0 hL (zAY rfl (zAY rfl zAM)))|(apply aJ (hd:=rfl);(first|exact zCW rfl|exact zC3 rfl rfl rfl|exact Co_nn rfl);exact rfl;(with_reducible exact zCd);assumption;omega;exact fun _=>rfl)|apply ay (hd:=rfl)|exact zAF rfl|exact zAB rfl|exact zBH rfl zDy rfl|refine zBE rfl rfl ?_|refine zDb rfl rfl ?_|exact zBX rfl|exact zAa rfl rfl|exact zAX rfl rfl|exact zAC rfl zCM|exact zAE rfl zAv rfl rfl|refine w1 rfl rfl ?_|refine zAI rfl ?_|refine zAJ rfl ?_|apply zAS|apply zAQ|refine zAj (by kernel_rfl) (by kernel_rfl) ?_|apply en_r|apply eb_n|apply eb_r|apply zAR|refine res1 rfl ?_
     all_goals first
      |omega
      |exact congrArg D.val (congrArg (Value.int .i64) (by unfold imgE;rw[if_neg (by omega),if_neg (fun h=>by have:=qAV.1 h i (qBL.2 hil);rw[hth]at this;cases this)]))
      |exact⟨i+1,⟨by omega,fun j hj=>by
        rcases qAR j i with h1|h1
        ·exact hi2 j h1
        ·rw[show j=i by omega];exact hth⟩,by omega,zAT (Le_all rfl) (zAO rfl rfl zAt) rfl rfl⟩
 ·have hall:(List.range m.pool.length).all (zDL m.pool)=true:=qAV.2 fun j hj=>hi2 j (by have:=qBL.1 hj;omega)
  have hA:=zLf m.code hE
  refine Stop.go ?_
  repeat' first|apply en_n|apply zAH|apply zAA|apply zAD|apply w0|(refine zAb zJz hA (zAY rfl zAM))|apply ay (hd:=rfl)|exact zAB rfl|exact zAC rfl zBD|exact zAE rfl zBo rfl rfl|apply zAQ|apply zAR|refine res1 rfl ?_
  exact congrArg D.val (congrArg (Value.int .i64) (by unfold imgE;rw[if_neg (by omega),if_pos hall]))
end Go.Proofs.YtcagoomibpcdlaaGreatDoor
