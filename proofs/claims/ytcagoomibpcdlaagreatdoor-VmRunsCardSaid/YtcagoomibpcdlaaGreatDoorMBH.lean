import Derived.Test.YtcagoomibpcdlaaGreatDoorMBG
set_option maxHeartbeats 16000000
namespace Go.Proofs.YtcagoomibpcdlaaGreatDoor
open _root_.Go.Proofs.Tryz
open Go.Sx Go.Vm
attribute [local irreducible] zAL Program.underlying Ylds zA2 alex zBZ zBP awp zAb zBh zBg zAW zBF zAp zCO zBG zBR zAr zBV zBY zBe zCQ zBM zA8 zBE
theorem zSI(c:Cn): zAb prog 32 [enCn c] (bl (zGJ c)):=by
 obtain⟨t,n,s⟩:=c
 have hW:=zIM n
 refine zAj func32 rfl ntmps32 results32 rfl ?_
 intro wb St0
 unfold enCn
 cases t
 ·by_cases hs:s=[]
  ·skip
   exact yP
  ·skip
   exact yP
 ·by_cases hs:n=0
  ·skip
   exact yP
  ·skip
   exact yP
theorem zT7(a b:Cn): zAb prog 33 [enCn a,enCn b] (bl (zL7 a b)):=by
 obtain⟨t,n,s⟩:=a
 obtain⟨t',n',s'⟩:=b
 refine zAj func33 rfl ntmps33 results33 rfl ?_
 intro wb St0
 unfold enCn
 cases t <;> cases t'
 all_goals
  dsimp only
  repeat' first|apply en_n|apply zAE|apply zAA|apply zAB|apply w0|refine kU (hd:=rfl) rfl rfl ?_|refine k1u (hd:=rfl) rfl rfl ?_|refine k0u (hd:=rfl) rfl rfl ?_|(refine zZJ rfl rfl)|refine aBoA ?_|refine ayA rfl ?_|apply ay (hd:=rfl)|exact zES rfl rfl|refine w1 rfl rfl ?_|(apply g1;exact rfl;exact rfl;all_goals intro hb)|apply zAM|apply zAS|refine res1 rfl ?_
  all_goals first|rfl|(exfalso;simp_all;done)|(apply zDn;simp[zL7];done)|(apply zDn;simp_all [zL7];done)
theorem zOJ(E:List Ins)(hE:E.length<=2000000): zAb prog 34 [.slice (E.map enIn)] (i64 (asmE E)):=by
 refine zAj func34 rfl ntmps34 results34 rfl ?_
 intro wb St0
 repeat' first|apply en_n|apply zAE|apply zAA|apply zAB|apply w0|refine ayA rfl ?_|apply ay (hd:=rfl)|exact zHI rfl rfl|(apply zBO;exact rfl;all_goals intro hb)|apply zAO|apply zAP|apply zAM|apply en_r|apply zAS|refine res1 rfl ?_
 ·refine congrArg D.val (congrArg (Value.int .i64) ?_)
  rw[asmE,if_pos (by rw[decide_eq_true (by omega:E.length>20000)];rfl)]
 have hlen:¬E.length>20000:=by omega
 refine zBA (α:=Nat) (fun i=>i<=E.length/\∀(j:Nat) u,j<i->E[j]?=some u->zJV u=true) (fun i=>[(0,.d (.slice (E.map enIn))),(3,.d (i64 (i:Int)))]) (fun _=>[]) (fun i=>E.length-i) 0 ⟨qAQ _,fun j u h=>by omega⟩
  (zAU (Le_all rfl) zAe rfl rfl) ?_
 rintro i ⟨hi1,hi2⟩
 repeat' first|(refine zCi (id:=8) ?_)|apply en_n|apply zAE|apply zAA|apply zAB|apply w0|exact ycA zMA (zOG _)|(apply aI (hd:=rfl);(first|exact zA0 rfl|exact zBX rfl rfl rfl|exact Co_nn rfl);exact rfl;(with_reducible exact zFg);exact fun _=>rfl;rotate_left;intro v hv;rotate_right)|refine ayA rfl ?_|apply ay (hd:=rfl)|exact zES rfl rfl|refine zBp rfl rfl ?_|(apply zBO;exact rfl;all_goals intro hb)|(apply zF1;exact rfl;all_goals intro hb)|apply zAO|apply zAP|apply zAM|apply zBH|apply en_r|apply en_e|apply eb_n|apply eb_r|apply eb_e|apply zAS|refine res1 rfl ?_
 ·omega
 ·refine congrArg D.val (congrArg (Value.int .i64) ?_)
  have hv':E[i]?=some v:=hv
  have:E.any (fun i=>!zJV i)=true:=List.any_eq_true.2 ⟨v,qAF hv',by simpa using hb⟩
  rw[asmE,if_pos (by rw[this];exact Bool.or_true _)]
 ·omega
 ·refine⟨i+1,⟨by omega,fun j u hj hu=>?_⟩,by omega,zAU (Le_all rfl) zAe rfl rfl⟩
  rcases qAR j i with h1|h1
  ·exact hi2 j u h1 hu
  ·have hv':E[i]?=some v:=hv
   rw[show j=i by omega,hv']at hu;injection hu with hu;subst hu;simpa using hb
 refine Stop.go ?_
 have hok:E.any (fun i=>!zJV i)=false:=by
  refine List.any_eq_false.2 fun u hu=>?_
  obtain⟨j,hj⟩:=qA1.1 hu
  rw[hi2 j u (by have:=(qAA.1 hj).1;omega) hj];decide
 clear hi1 hi2 hb
 repeat' first|apply en_n|apply zAE|apply zAA|apply zAB|apply w0|refine ayA rfl ?_|apply zAO
 refine zBA (α:=Nat) (fun i=>i<=E.length/\∀(j:Nat) u,j<i->E[j]?=some u->(zHD u.op&&decide (u.a>=(E.length:Int)))=false) (fun i=>[(0,.d (.slice (E.map enIn))),(4,.d (i64 (i:Int)))]) (fun _=>[]) (fun i=>E.length-i) 0 ⟨qAQ _,fun j u h=>by omega⟩
  (zAU (Le_all rfl) zAe rfl rfl) ?_
 rintro i ⟨hi1,hi2⟩
 repeat' first|apply en_n|apply zAE|apply zAA|apply zAB|apply w0|refine k1u (hd:=rfl) rfl rfl ?_|exact ycA zHX (zQs _)|refine aJA ?_|(apply aI (hd:=rfl);(first|exact zA0 rfl|exact zBX rfl rfl rfl|exact Co_nn rfl);exact rfl;(with_reducible exact zFg);exact fun _=>rfl;rotate_left;intro v hv;rotate_right)|refine ayA rfl ?_|apply ay (hd:=rfl)|exact zES rfl rfl|exact zJg rfl rfl|refine zBp rfl rfl ?_|refine w1 rfl rfl ?_|(apply g1;exact rfl;exact rfl;all_goals intro hb)|(apply zBO;exact rfl;all_goals intro hb)|refine zAI rfl ?_|apply zAO|apply zAP|apply zAM|apply zBH|apply en_r|apply en_e|apply eb_n|apply eb_r|apply eb_e|apply zAS|refine res1 rfl ?_
 ·omega
 ·rename_i hg
  refine congrArg D.val (congrArg (Value.int .i64) ?_)
  have hv':E[i]?=some v:=hv
  have:E.any (fun i=>zHD i.op&&decide (i.a>=(E.length:Int)))=true:=List.any_eq_true.2 ⟨v,qAF hv',by rw[hg,decide_eq_true hb];rfl⟩
  rw[asmE,if_neg (by rw[hok,decide_eq_false hlen];decide),if_pos this]
 ·omega
 ·rename_i hg
  refine⟨i+1,⟨by omega,fun j u hj hu=>?_⟩,by omega,zAU (Le_all rfl) zAe rfl rfl⟩
  rcases qAR j i with h1|h1
  ·exact hi2 j u h1 hu
  ·have hv':E[i]?=some v:=hv
   rw[show j=i by omega,hv']at hu;injection hu with hu;subst hu;rw[hg,decide_eq_false hb];rfl
 ·omega
 ·refine⟨i+1,⟨by omega,fun j u hj hu=>?_⟩,by omega,zAU (Le_all rfl) zAe rfl rfl⟩
  rcases qAR j i with h1|h1
  ·exact hi2 j u h1 hu
  ·have hv':E[i]?=some v:=hv
   rw[show j=i by omega,hv']at hu;injection hu with hu;subst hu;rw[hb];rfl
 ·refine congrArg D.val (congrArg (Value.int .i64) ?_)
  have:E.any (fun i=>zHD i.op&&decide (i.a>=(E.length:Int)))=false:=by
   refine List.any_eq_false.2 fun u hu=>?_
   obtain⟨j,hj⟩:=qA1.1 hu
   rw[hi2 j u (by have:=(qAA.1 hj).1;omega) hj];decide
  rw[asmE,if_neg (by rw[hok,decide_eq_false hlen];decide),if_neg (by rw[this];decide)]
theorem zOH(m:Img)(hE:m.code.length<=2000000): zAb prog 16 [zCs m] (i64 (imgE m)):=by
 refine zAj func16 rfl ntmps16 results16 rfl ?_
 intro wb St0
 unfold zCs
 repeat' first|apply en_n|apply zAE|apply zAA|apply zAB|apply w0|refine aBoA ?_|refine ayA rfl ?_|apply ay (hd:=rfl)|exact zHI rfl rfl|(apply zBO;exact rfl;all_goals intro hb)|apply zAO|apply zAP|apply zAM|apply en_r|apply zAS|refine res1 rfl ?_
 ·exact congrArg D.val (congrArg (Value.int .i64) (by unfold imgE;rw[if_pos (by omega)]))
 refine zBA (α:=Nat) (fun i=>i<=m.pool.length/\∀j,j<i->zD0 m.pool j=true) (fun i=>[(1,.ptr 0 0),(3,.d (i64 (i:Int)))]) (fun _=>[.box [.d (.slice (m.pool.map enCn)),.d (.slice (m.code.map enIn))]]) (fun i=>m.pool.length-i) 0 ⟨qAQ _,fun j h=>by omega⟩
  (zAU (Le_all rfl) (zAK rfl rfl zAe) rfl rfl) ?_
 rintro i ⟨hi1,hi2⟩
 repeat' first|(refine zZy (id:=6) ?_)|(refine zCi (id:=8) ?_)|apply en_n|apply zAE|apply zAA|apply zAB|apply w0|refine ayA rfl ?_|apply ay (hd:=rfl)|exact zES rfl rfl|(apply zBO;exact rfl;all_goals intro hb)|apply zAO|apply zAP|apply zBH|apply en_e|apply eb_e
 ·refine Stop.go ?_
  have hil:i<m.pool.length:=by omega
  obtain⟨v,hv'⟩:∃v,m.pool[i]?=some v:=⟨_,qAB hil⟩
  have hvd:m.pool.getD i default=v:=by rw[qAD,hv'];rfl
  have hR:=zSI v
  cases hr:zGJ v
  ·rw[hr]at hR
   have hth:zD0 m.pool i=false:=by unfold zD0;rw[hvd,hr];rfl
   unfold enCn at *
   skip
   exact yQ
  ·rw[hr]at hR
   rcases Nat.eq_zero_or_pos i with h0|h0
   ·subst h0
    have hth:zD0 m.pool 0=true:=by unfold zD0;rw[hvd,hr];rfl
    unfold enCn at *
    skip
    exact yT
   ·obtain⟨u,hu⟩:∃u,m.pool[i-1]?=some u:=⟨_,qAB (by omega)⟩
    have hud:m.pool.getD (i-1) default=u:=by rw[qAD,hu];rfl
    have hL:=zT7 u v
    have hth:zD0 m.pool i=zL7 u v:=by unfold zD0;rw[hvd,hud,hr,decide_eq_false (by omega)];rfl
    have hu':m.pool[((i:Int)-1).toNat]?=some u:=by rw[show ((i:Int)-1).toNat=i-1 by omega];exact hu
    cases hl:zL7 u v
    all_goals
     rw[hl]at hL hth
     unfold enCn at *
     skip
     repeat' first|apply en_n|apply zAE|apply zAA|apply zAB|apply w0|exact ycA zGw hR|exact ycA zNL hL|refine aJA ?_|refine ayA rfl ?_|refine ayQ rfl ?_|apply ay (hd:=rfl)|refine zBp rfl rfl ?_|refine zCe rfl rfl ?_|refine w1 rfl rfl ?_|refine zAJ rfl ?_|refine zAI rfl ?_|apply zAP|apply zAM|refine awDA ?_|apply en_r|apply eb_n|apply eb_r|apply zAS|refine res1 rfl ?_
     all_goals first
      |omega
      |exact congrArg D.val (congrArg (Value.int .i64) (by unfold imgE;rw[if_neg (by omega),if_neg (fun h=>by have:=qAb.1 h i (qBN.2 hil);rw[hth]at this;cases this)]))
      |exact⟨i+1,⟨by omega,fun j hj=>by
        rcases qAR j i with h1|h1
        ·exact hi2 j h1
        ·rw[show j=i by omega];exact hth⟩,by omega,zAU (Le_all rfl) (zAK rfl rfl zAe) rfl rfl⟩
 ·have hall:(List.range m.pool.length).all (zD0 m.pool)=true:=qAb.2 fun j hj=>hi2 j (by have:=qBN.1 hj;omega)
  have hA:=zOJ m.code hE
  refine Stop.go ?_
  exact yW
