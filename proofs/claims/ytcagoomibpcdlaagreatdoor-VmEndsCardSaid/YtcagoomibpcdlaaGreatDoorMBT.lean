/- Parts of the proof. -/
import Derived.Test.YtcagoomibpcdlaaGreatDoorMBS
set_option maxHeartbeats 16000000
namespace Go.Proofs.YtcagoomibpcdlaaGreatDoor
open _root_.Go.Proofs.Tryz
open Go.Sx Go.Vm
attribute [local irreducible] zAO Program.underlying Ylds zBE alex zB0 zBk awp zAg zB9 zB8 zAU zBj zA6 zDJ zBl zBn zBC zBq zBz zB7 zDQ zBm zBc zBe
theorem zPp(c:Cn): zAg prog 32 [enCn c] (bl (zFG c)):=by
 obtain⟨t,n,s⟩:=c
 have hW:=zOX n
 refine zAr func32 rfl ntmps32 results32 rfl ?_
 intro wb St0
 unfold enCn
 cases t
 ·by_cases hs:s=[]
  ·skip
   repeat' first|apply en_n|apply zAG|apply zAA|apply zAD|apply w0|(apply zV9;exact rfl;exact rfl;assumption)|(refine zAd zOp hW (CoLA rfl))|refine aBox (hd:=rfl) (hro:=rfl) rfl rfl ?_|apply ay (hd:=rfl)|exact zAF rfl|exact zAB rfl|exact zE6 rfl rfl|exact zAZ rfl rfl|(apply zAC;exact rfl;(with_reducible first|exact zCc|exact zDn|exact zC4))|(apply zAE;exact rfl;(with_reducible first|exact zEP|exact zEO|exact zAb);exact rfl;exact rfl)|refine w1 rfl rfl ?_|refine zAJ rfl ?_|apply zAR|apply zAQ|refine zAf (by kernel_rfl) (by kernel_rfl) ?_|apply zAT|refine res1 rfl ?_
   all_goals apply zDR
   all_goals simp[zFG,hs]at *
   all_goals first|omega|exact Iff.rfl
  ·skip
   repeat' first|apply en_n|apply zAG|apply zAA|apply zAD|apply w0|(apply zWA;exact rfl;exact rfl;assumption)|refine aBox (hd:=rfl) (hro:=rfl) rfl rfl ?_|apply ay (hd:=rfl)|exact zAF rfl|exact zAB rfl|exact zAV rfl rfl|(apply zAC;exact rfl;(with_reducible first|exact zCc|exact zC4))|(apply zAE;exact rfl;(with_reducible first|exact zEO|exact zAb);exact rfl;exact rfl)|refine k1 (hd:=rfl) rfl rfl ?_|refine zAJ rfl ?_|apply zAR|apply zAQ|refine zAf (by kernel_rfl) (by kernel_rfl) ?_|apply zAT|refine res1 rfl ?_
   all_goals apply zDR
   all_goals simp[zFG,hs]at *
   all_goals first|omega|exact Iff.rfl
 ·by_cases hs:n=0
  ·skip
   repeat' first|apply en_n|apply zAG|apply zAA|apply zAD|apply w0|exact zAi rfl rfl|(apply zEY;exact rfl;with_reducible exact ustr)|refine aBox (hd:=rfl) (hro:=rfl) rfl rfl ?_|apply ay (hd:=rfl)|exact zAF rfl|exact zAB rfl|exact zGk rfl rfl|exact zAZ rfl rfl|(apply zAC;exact rfl;(with_reducible first|exact zCc|exact zDn|exact zC4))|(apply zAE;exact rfl;(with_reducible first|exact zEP|exact zEO|exact zAb);exact rfl;exact rfl)|refine w1 rfl rfl ?_|refine zAI rfl ?_|apply zAQ|apply en_r|apply zAT|refine res1 rfl ?_
   all_goals apply zDR
   all_goals simp[zFG,hs]at *
   all_goals first|omega|exact Iff.rfl
  ·skip
   repeat' first|apply en_n|apply zAG|apply zAA|apply zAD|apply w0|refine k1u (hd:=rfl) rfl rfl ?_|exact zAn rfl rfl|refine aBox (hd:=rfl) (hro:=rfl) rfl rfl ?_|apply ay (hd:=rfl)|exact zAF rfl|exact zAB rfl|exact zAV rfl rfl|(apply zAC;exact rfl;(with_reducible first|exact zCc|exact zDn))|(apply zAE;exact rfl;(with_reducible first|exact zEP|exact zAb);exact rfl;exact rfl)|refine zAI rfl ?_|apply zAQ|apply en_r|apply zAT|refine res1 rfl ?_
   all_goals apply zDR
   all_goals simp[zFG,hs]at *
   all_goals first|omega|exact Iff.rfl
theorem zRR(a b:Cn): zAg prog 33 [enCn a,enCn b] (bl (zKP a b)):=by
 obtain⟨t,n,s⟩:=a
 obtain⟨t',n',s'⟩:=b
 refine zAr func33 rfl ntmps33 results33 rfl ?_
 intro wb St0
 unfold enCn
 cases t <;> cases t'
 all_goals
  dsimp only
  repeat' first|apply en_n|apply zAG|apply zAA|apply zAD|apply w0|refine kU (hd:=rfl) rfl rfl ?_|refine k1u (hd:=rfl) rfl rfl ?_|refine k0u (hd:=rfl) rfl rfl ?_|(refine zV6 rfl rfl)|refine aBox (hd:=rfl) (hro:=rfl) rfl rfl ?_|apply ay (hd:=rfl)|exact zAF rfl|exact zAB rfl|exact zEM rfl rfl|exact zBS rfl|exact zAZ rfl rfl|exact zAV rfl rfl|(apply zAC;exact rfl;(with_reducible first|exact zCc|exact zDn|exact zC4))|(apply zAE;exact rfl;(with_reducible first|exact zEP|exact zEO|exact zAb);exact rfl;exact rfl)|refine w1 rfl rfl ?_|(apply g1;exact rfl;exact rfl;all_goals intro hb)|apply zAQ|apply zAT|refine res1 rfl ?_
  all_goals first|rfl|(exfalso;simp_all;done)|(apply zDR;simp[zKP];done)|(apply zDR;simp_all [zKP];done)
theorem zME(E:List Ins)(hE:E.length<=2000000): zAg prog 34 [.slice (E.map enIn)] (i64 (asmE E)):=by
 refine zAr func34 rfl ntmps34 results34 rfl ?_
 intro wb St0
 repeat' first|apply en_n|apply zAG|apply zAA|apply zAD|apply w0|apply ay (hd:=rfl)|exact zAF rfl|exact zAB rfl|exact zBD rfl zDk|exact zGM rfl rfl|(apply zBa;exact rfl;all_goals intro hb)|apply zAK|apply zAR|apply zAQ|apply en_r|apply zAT|refine res1 rfl ?_
 ·refine congrArg D.val (congrArg (Value.int .i64) ?_)
  rw[asmE,if_pos (by rw[decide_eq_true (by omega:E.length>20000)];rfl)]
 have hlen:¬E.length>20000:=by omega
 refine zBV (α:=Nat) (fun i=>i<=E.length/\∀(j:Nat) u,j<i->E[j]?=some u->zH1 u=true) (fun i=>[(0,.d (.slice (E.map enIn))),(3,.d (i64 (i:Int)))]) (fun _=>[]) (fun i=>E.length-i) 0 ⟨qAV _,fun j u h=>by omega⟩
  (zAS (Le_all rfl) zAs rfl rfl) ?_
 rintro i ⟨hi1,hi2⟩
 repeat' first|(refine zEd (id:=8) ?_)|apply en_n|apply zAG|apply zAA|apply zAD|apply w0|(refine zAd zKT (zMB _) (CoLA rfl))|(apply aI (hd:=rfl);(first|exact zCQ rfl|exact zCp rfl rfl rfl|exact Co_nn rfl);exact rfl;(with_reducible exact zB3);exact fun _=>rfl;rotate_left;intro v hv;rotate_right)|apply ay (hd:=rfl)|exact zAF rfl|exact zAB rfl|exact zBK rfl zA8 rfl|exact zBD rfl zDk|exact zEM rfl rfl|refine zBG rfl rfl ?_|exact zBS rfl|(apply zBa;exact rfl;all_goals intro hb)|(apply zE3;exact rfl;all_goals intro hb)|apply zAK|apply zAR|apply zAQ|apply zBX|apply en_r|apply en_e|apply eb_n|apply eb_r|apply eb_e|apply zAT|refine res1 rfl ?_
 ·omega
 ·refine congrArg D.val (congrArg (Value.int .i64) ?_)
  have hv':E[i]?=some v:=hv
  have:E.any (fun i=>!zH1 i)=true:=List.any_eq_true.2 ⟨v,qAH hv',by simpa using hb⟩
  rw[asmE,if_pos (by rw[this];exact Bool.or_true _)]
 ·omega
 ·refine⟨i+1,⟨by omega,fun j u hj hu=>?_⟩,by omega,zAS (Le_all rfl) zAs rfl rfl⟩
  rcases qAQ j i with h1|h1
  ·exact hi2 j u h1 hu
  ·have hv':E[i]?=some v:=hv
   rw[show j=i by omega,hv']at hu;injection hu with hu;subst hu;simpa using hb
 refine Stop.go ?_
 have hok:E.any (fun i=>!zH1 i)=false:=by
  refine List.any_eq_false.2 fun u hu=>?_
  obtain⟨j,hj⟩:=qA0.1 hu
  rw[hi2 j u (by have:=(qAA.1 hj).1;omega) hj];decide
 clear hi1 hi2 hb
 repeat' first|apply en_n|apply zAG|apply zAA|apply zAD|apply w0|apply ay (hd:=rfl)|exact zAB rfl|apply zAK
 refine zBV (α:=Nat) (fun i=>i<=E.length/\∀(j:Nat) u,j<i->E[j]?=some u->(zFz u.op&&decide (u.a>=(E.length:Int)))=false) (fun i=>[(0,.d (.slice (E.map enIn))),(4,.d (i64 (i:Int)))]) (fun _=>[]) (fun i=>E.length-i) 0 ⟨qAV _,fun j u h=>by omega⟩
  (zAS (Le_all rfl) zAs rfl rfl) ?_
 rintro i ⟨hi1,hi2⟩
 repeat' first|apply en_n|apply zAG|apply zAA|apply zAD|apply w0|refine k1u (hd:=rfl) rfl rfl ?_|(refine zAd zGE (zOY _) (CoLA rfl))|(apply aJ (hd:=rfl);(first|exact zCQ rfl|exact zCp rfl rfl rfl|exact Co_nn rfl);exact rfl;(with_reducible exact zB3);assumption;omega;exact fun _=>rfl)|(apply aI (hd:=rfl);(first|exact zCQ rfl|exact zCp rfl rfl rfl|exact Co_nn rfl);exact rfl;(with_reducible exact zB3);exact fun _=>rfl;rotate_left;intro v hv;rotate_right)|apply ay (hd:=rfl)|exact zAF rfl|exact zAB rfl|(apply zDB;exact rfl;(with_reducible first|exact zAv|exact zAl))|(apply zCK;exact rfl;(with_reducible first|exact zAa|exact zAP))|exact zBD rfl zDk|exact zEM rfl rfl|exact zH9 rfl rfl|refine zBG rfl rfl ?_|exact zAZ rfl rfl|exact zAV rfl rfl|refine w1 rfl rfl ?_|(apply g1;exact rfl;exact rfl;all_goals intro hb)|(apply zBa;exact rfl;all_goals intro hb)|refine zAJ rfl ?_|apply zAK|apply zAR|apply zAQ|apply zBX|apply en_r|apply en_e|apply eb_n|apply eb_r|apply eb_e|apply zAT|refine res1 rfl ?_
 ·omega
 ·rename_i hg
  refine congrArg D.val (congrArg (Value.int .i64) ?_)
  have hv':E[i]?=some v:=hv
  have:E.any (fun i=>zFz i.op&&decide (i.a>=(E.length:Int)))=true:=List.any_eq_true.2 ⟨v,qAH hv',by rw[hg,decide_eq_true hb];rfl⟩
  rw[asmE,if_neg (by rw[hok,decide_eq_false hlen];decide),if_pos this]
 ·omega
 ·rename_i hg
  refine⟨i+1,⟨by omega,fun j u hj hu=>?_⟩,by omega,zAS (Le_all rfl) zAs rfl rfl⟩
  rcases qAQ j i with h1|h1
  ·exact hi2 j u h1 hu
  ·have hv':E[i]?=some v:=hv
   rw[show j=i by omega,hv']at hu;injection hu with hu;subst hu;rw[hg,decide_eq_false hb];rfl
 ·omega
 ·refine⟨i+1,⟨by omega,fun j u hj hu=>?_⟩,by omega,zAS (Le_all rfl) zAs rfl rfl⟩
  rcases qAQ j i with h1|h1
  ·exact hi2 j u h1 hu
  ·have hv':E[i]?=some v:=hv
   rw[show j=i by omega,hv']at hu;injection hu with hu;subst hu;rw[hb];rfl
 ·refine congrArg D.val (congrArg (Value.int .i64) ?_)
  have:E.any (fun i=>zFz i.op&&decide (i.a>=(E.length:Int)))=false:=by
   refine List.any_eq_false.2 fun u hu=>?_
   obtain⟨j,hj⟩:=qA0.1 hu
   rw[hi2 j u (by have:=(qAA.1 hj).1;omega) hj];decide
  rw[asmE,if_neg (by rw[hok,decide_eq_false hlen];decide),if_neg (by rw[this];decide)]
theorem zMC(m:Img)(hE:m.code.length<=2000000): zAg prog 16 [zCm m] (i64 (imgE m)):=by
 refine zAr func16 rfl ntmps16 results16 rfl ?_
 intro wb St0
 unfold zCm
 repeat' first|apply en_n|apply zAG|apply zAA|apply zAD|apply w0|refine aBox (hd:=rfl) (hro:=rfl) rfl rfl ?_|apply ay (hd:=rfl)|exact zAB rfl|exact zBD rfl zD4|exact zGM rfl rfl|exact zAC rfl zB2|exact zAE rfl zAx rfl rfl|(apply zBa;exact rfl;all_goals intro hb)|apply zAK|apply zAR|apply zAQ|apply en_r|apply zAT|refine res1 rfl ?_
 ·exact congrArg D.val (congrArg (Value.int .i64) (by unfold imgE;rw[if_pos (by omega)]))
 refine zBV (α:=Nat) (fun i=>i<=m.pool.length/\∀j,j<i->zDN m.pool j=true) (fun i=>[(1,.ptr 0 0),(3,.d (i64 (i:Int)))]) (fun _=>[.box [.d (.slice (m.pool.map enCn)),.d (.slice (m.code.map enIn))]]) (fun i=>m.pool.length-i) 0 ⟨qAV _,fun j h=>by omega⟩
  (zAS (Le_all rfl) (zAN rfl rfl zAs) rfl rfl) ?_
 rintro i ⟨hi1,hi2⟩
 repeat' first|(refine zWe (id:=6) ?_)|(refine zEd (id:=8) ?_)|apply en_n|apply zAG|apply zAA|apply zAD|apply w0|apply ay (hd:=rfl)|exact zAF rfl|exact zBD rfl zD4|exact zEM rfl rfl|exact zAC rfl zB2|exact zAE rfl zAx rfl rfl|(apply zBa;exact rfl;all_goals intro hb)|apply zAK|apply zAR|apply zBX|apply en_e|apply eb_e
 ·refine Stop.go ?_
  have hil:i<m.pool.length:=by omega
  obtain⟨v,hv'⟩:∃v,m.pool[i]?=some v:=⟨_,qAB hil⟩
  have hvd:m.pool.getD i default=v:=by rw[qAE,hv'];rfl
  have hR:=zPp v
  cases hr:zFG v
  ·rw[hr]at hR
   have hth:zDN m.pool i=false:=by unfold zDN;rw[hvd,hr];rfl
   unfold enCn at *
   skip
   repeat' first|apply en_n|apply zAG|apply zAA|apply zAD|apply w0|refine kUd (hd:=rfl) rfl rfl ?_|refine k0ud (hd:=rfl) rfl rfl ?_|(refine zAd zFi hR (CoLA rfl))|(apply aJ (hd:=rfl);(first|exact zCQ rfl|exact zCp rfl rfl rfl|exact Co_nn rfl);exact rfl;(with_reducible exact zDF);assumption;omega;exact fun _=>rfl)|apply ay (hd:=rfl)|exact zAF rfl|exact zAB rfl|exact zBK rfl zD3 rfl|exact zBS rfl|exact zAZ rfl rfl|exact zAC rfl zB2|exact zAE rfl zAx rfl rfl|refine zAI rfl ?_|apply zAQ|refine zAf (by kernel_rfl) (by kernel_rfl) ?_|apply en_r|apply eb_r|apply zAT|refine res1 rfl ?_
   exact congrArg D.val (congrArg (Value.int .i64) (by unfold imgE;rw[if_neg (by omega),if_neg (fun h=>by have:=qAX.1 h i (qBL.2 hil);rw[hth]at this;cases this)]))
  ·rw[hr]at hR
   rcases Nat.eq_zero_or_pos i with h0|h0
   ·subst h0
    have hth:zDN m.pool 0=true:=by unfold zDN;rw[hvd,hr];rfl
    unfold enCn at *
    skip
    repeat' first|apply en_n|apply zAA|apply zAD|apply w0|refine k1ud (hd:=rfl) rfl rfl ?_|exact zDx rfl rfl|(refine zAd zFi hR (CoLA rfl))|(apply aJ (hd:=rfl);(first|exact zCQ rfl|exact zCp rfl rfl rfl|exact Co_nn rfl);exact rfl;(with_reducible exact zDF);assumption;omega;exact fun _=>rfl)|apply ay (hd:=rfl)|exact zAF rfl|exact zAB rfl|exact zBK rfl zD3 rfl|refine zBG rfl rfl ?_|exact zBS rfl|exact zAV rfl rfl|exact zAC rfl zB2|exact zAE rfl zAx rfl rfl|refine w1 rfl rfl ?_|refine zAJ rfl ?_|apply zAR|refine zAf (by kernel_rfl) (by kernel_rfl) ?_|apply eb_n
    ·omega
    ·exact⟨1,⟨by omega,fun j hj=>by rw[show j=0 by omega];exact hth⟩,by omega,zAS (Le_all rfl) (zAN rfl rfl zAs) rfl rfl⟩
   ·obtain⟨u,hu⟩:∃u,m.pool[i-1]?=some u:=⟨_,qAB (by omega)⟩
    have hud:m.pool.getD (i-1) default=u:=by rw[qAE,hu];rfl
    have hL:=zRR u v
    have hth:zDN m.pool i=zKP u v:=by unfold zDN;rw[hvd,hud,hr,decide_eq_false (by omega)];rfl
    have hu':m.pool[((i:Int)-1).toNat]?=some u:=by rw[show ((i:Int)-1).toNat=i-1 by omega];exact hu
    cases hl:zKP u v
    all_goals
     rw[hl]at hL hth
     unfold enCn at *
     skip
     repeat' first|apply en_n|apply zAG|apply zAA|apply zAD|apply w0|exact zEr rfl rfl|(refine zAd zFi hR (CoLA rfl))|(refine zAd zLV hL (CoLA rfl))|(apply aJ (hd:=rfl);(first|exact zCQ rfl|exact zCp rfl rfl rfl|exact Co_nn rfl);exact rfl;(with_reducible exact zDF);assumption;omega;exact fun _=>rfl)|apply ay (hd:=rfl)|exact zAF rfl|exact zAB rfl|exact zBK rfl zD3 rfl|refine zBG rfl rfl ?_|refine zC2 rfl rfl ?_|exact zBS rfl|exact zAZ rfl rfl|exact zAV rfl rfl|exact zAC rfl zB2|exact zAE rfl zAx rfl rfl|refine w1 rfl rfl ?_|refine zAI rfl ?_|refine zAJ rfl ?_|apply zAR|apply zAQ|refine zAf (by kernel_rfl) (by kernel_rfl) ?_|apply en_r|apply eb_n|apply eb_r|apply zAT|refine res1 rfl ?_
     all_goals first
      |omega
      |exact congrArg D.val (congrArg (Value.int .i64) (by unfold imgE;rw[if_neg (by omega),if_neg (fun h=>by have:=qAX.1 h i (qBL.2 hil);rw[hth]at this;cases this)]))
      |exact⟨i+1,⟨by omega,fun j hj=>by
        rcases qAQ j i with h1|h1
        ·exact hi2 j h1
        ·rw[show j=i by omega];exact hth⟩,by omega,zAS (Le_all rfl) (zAN rfl rfl zAs) rfl rfl⟩
 ·have hall:(List.range m.pool.length).all (zDN m.pool)=true:=qAX.2 fun j hj=>hi2 j (by have:=qBL.1 hj;omega)
  have hA:=zME m.code hE
  refine Stop.go ?_
  repeat' first|apply en_n|apply zAG|apply zAA|apply zAD|apply w0|(refine zAd zKS hA (CoLA rfl))|apply ay (hd:=rfl)|exact zAB rfl|exact zAC rfl zA9|exact zAE rfl zBg rfl rfl|apply zAQ|apply zAT|refine res1 rfl ?_
  exact congrArg D.val (congrArg (Value.int .i64) (by unfold imgE;rw[if_neg (by omega),if_pos hall]))
end Go.Proofs.YtcagoomibpcdlaaGreatDoor
