/- Texts of this claim, merged: VmDO. -/
import Derived.Test.YtcagoomibpcdlaaGreatDoorMBR
namespace Go.Proofs.YtcagoomibpcdlaaGreatDoor
open Go.Sx Go.Vm
attribute [local irreducible] zAQ Program.underlying Ylds zBD alex zCA zBi awp zAp zCI zCH zAW zBw zA5 zD4 zB0 zBp zBF zBv zB9 zCE zES zBn zBm zBs
theorem zMv(E:List Ins)(hE:E.length≤2000000): zAp Tryz.prog 72 [.slice (E.map enIn)] (i64 (asmE E)):=by
 refine zA8 Tryz.func72 rfl Tryz.ntmps72 Tryz.results72 rfl ?_
 intro wb St0
 repeat' first|apply en_n|apply zAK|apply zAA|apply zAF|apply w0|(apply k0u (hd:=rfl);exact rfl;exact rfl)|(refine zAZ [] [] rfl rfl zC5 (zW3 _ (fun i=>!zKd i) zJg zQ7 E hE) rfl ?_ rfl (by decide) rfl rfl rfl rfl;(repeat (refine zAB rfl ?_));exact zAE)|(refine zAZ [0] [] rfl rfl zC5 (zW2 _ _ _ zJf (zQ6 E) E hE) rfl ?_ rfl (by decide) rfl rfl rfl rfl;(repeat (refine zAB rfl ?_));exact zAE)|(apply aBox (hd:=rfl) (hro:=rfl);exact rfl;exact rfl)|apply ay (hd:=rfl)|exact zAJ rfl|exact zAD rfl|(apply zBZ;exact rfl;(with_reducible exact zFf))|exact zH0 rfl rfl|exact zAj rfl rfl|exact zAc rfl rfl|(apply zAG;exact rfl;(with_reducible exact zBk);exact rfl;exact rfl)|exact zJh rfl|(apply w1;exact rfl;exact rfl)|(apply gD;exact rfl;exact rfl;(intro hb);rotate_left;(intro hb);rotate_right)|(apply zAL;exact rfl)|(apply zFF;exact rfl;(intro hb);rotate_left;(intro hb);rotate_right)|apply zAU|apply zAT|apply en_r|apply zAY|(apply res1;exact rfl)
 all_goals (refine congrArg D.val (congrArg (Value.int .i64) ?_))
 ·rw[asmE,if_pos (by rw[decide_eq_true (by omega:E.length>20000)];rfl)]
 ·rw[asmE,if_pos (by rw[hb];exact Bool.or_true _)]
 ·rename_i h1 h2;rw[asmE,if_neg (by rw[h2,decide_eq_false (by omega:¬E.length>20000)];decide),if_pos hb]
 ·rename_i h1 h2;rw[asmE,if_neg (by rw[h2,decide_eq_false (by omega:¬E.length>20000)];decide),if_neg (by rw[hb];decide)]
theorem zMc(m:Img)(hp:m.pool.length≤2000000)(hE:m.code.length≤2000000)(ht:∀c∈m.pool,c.text.length≤2000000): zAp Tryz.prog 35 [zDY m] (i64 (imgE m)):=by
 refine zA8 Tryz.func35 rfl Tryz.ntmps35 Tryz.results35 rfl ?_
 intro wb St0
 unfold zDY
 repeat' first|apply en_n|apply zAK|apply zAA|apply zAF|apply w0|(apply aBox (hd:=rfl) (hro:=rfl);exact rfl;exact rfl)|apply ay (hd:=rfl)|exact zAJ rfl|exact zAD rfl|(apply zBZ;exact rfl;(with_reducible exact zF3))|exact zH0 rfl rfl|(apply zAC;exact rfl;(with_reducible exact zCi))|(apply zAG;exact rfl;(with_reducible exact zA0);exact rfl;exact rfl)|(apply zCO;exact rfl;(intro hb);rotate_left;(intro hb);rotate_right)|apply zAO|apply zAU|apply zAT|apply en_r|apply zAY|(apply res1;exact rfl)
 ·exact congrArg D.val (congrArg (Value.int .i64) (by unfold imgE;rw[if_pos (by omega)]))
 refine zBo (α:=Nat) (fun i=>i≤m.pool.length∧∀j,j<i→zFJ m.pool j=true) (fun i=>[(1,.ptr 0 0),(10,.d (.slice (m.pool.map enCn))),(11,.d (i64 (m.pool.length:Int))),(12,.d (i64 (i:Int)))]) (fun _=>[.box [.d (.slice (m.pool.map enCn)),.d (.slice (m.code.map enIn))]]) (fun i=>m.pool.length-i) 0 ⟨Nat.zero_le _,fun j h=>by omega⟩
  (zAV (zAI rfl (zAI rfl (Le_d rfl rfl (Le_d rfl rfl zAd)))) (zAP rfl rfl zA7) rfl rfl) ?_
 rintro i ⟨hi1,hi2⟩
 repeat' first|(refine zXP (id:=6) ?_)|(refine zGo (id:=9) ?_)|apply en_n|apply zAK|apply zAA|apply zAF|apply w0|(apply aI (hd:=rfl);(first|exact zCw rfl|exact zDn rfl rfl rfl|exact Co_nn rfl);exact rfl;(with_reducible exact zD7);exact fun _=>rfl;rotate_left;intro v hv;rotate_right)|(apply zDs (hd:=rfl) (hro:=rfl);(with_reducible exact zIk))|apply ay (hd:=rfl)|exact zAJ rfl|exact zAD rfl|(apply zBU;exact rfl;(with_reducible exact zEW);exact rfl)|exact zGm rfl rfl|(refine w0' ?_)|(apply zAl;exact rfl;exact rfl;exact rfl;(with_reducible exact zEW);exact rfl;exact rfl;exact rfl;exact rfl)|(apply zCO;exact rfl;(intro hb);rotate_left;(intro hb);rotate_right)|apply zAO|apply zAU|apply zBu|apply en_e|apply eb_e
 ·omega
 ·refine Stop.go ?_
  have hv':m.pool[i]?=some v:=hv
  have hil:i<m.pool.length:=(List.getElem?_eq_some_iff.1 hv').1
  have hvd:m.pool.getD i default=v:=by rw[List.getD_eq_getElem?_getD,hv'];rfl
  have hR:=zSi v (ht v (List.mem_of_getElem? hv'))
  cases hr:zHO v
  ·rw[hr]at hR
   have hth:zFJ m.pool i=false:=by unfold zFJ;rw[hvd,hr];rfl
   unfold enCn at *
   skip
   repeat' first|apply en_n|apply zAK|apply zAA|apply zAF|apply w0|(apply kUd (hd:=rfl);exact rfl;exact rfl)|(apply k0ud (hd:=rfl);exact rfl;exact rfl)|(refine zAh zFM hR (zAa rfl zAR))|apply ay (hd:=rfl)|exact zAJ rfl|exact zAD rfl|exact zBd rfl|exact zAj rfl rfl|(apply zBG;exact rfl;(with_reducible exact zEW);exact rfl;exact rfl;exact rfl)|(apply zAL;exact rfl)|apply zAT|refine zAr (by kernel_rfl) (by kernel_rfl) ?_|apply en_r|apply eb_r|apply zAY|(apply res1;exact rfl)
   exact congrArg D.val (congrArg (Value.int .i64) (by unfold imgE;rw[if_neg (by omega),if_neg (fun h=>by have:=List.all_eq_true.1 h i (List.mem_range.2 hil);rw[hth]at this;cases this)]))
  ·rw[hr]at hR
   rcases Nat.eq_zero_or_pos i with h0|h0
   ·subst h0
    have hth:zFJ m.pool 0=true:=by unfold zFJ;rw[hvd,hr];rfl
    unfold enCn at *
    skip
    repeat' first|apply en_n|apply zAA|apply zAF|apply w0|(apply k1ud (hd:=rfl);exact rfl;exact rfl)|(apply zDt;exact rfl;exact rfl;first|assumption|omega)|(refine zAh zFM hR (zAa rfl zAR))|apply ay (hd:=rfl)|exact zAJ rfl|(apply zBL;exact rfl;exact rfl)|exact zBd rfl|exact zAc rfl rfl|(apply zBG;exact rfl;(with_reducible exact zEW);exact rfl;exact rfl;exact rfl)|(apply w1;exact rfl;exact rfl)|(apply zAM;exact rfl)|apply zAU|refine zAr (by kernel_rfl) (by kernel_rfl) ?_|apply eb_n
    ·omega
    ·exact⟨1,⟨by omega,fun j hj=>by rw[show j=0 by omega];exact hth⟩,by omega,zAV (zAI rfl (zAI rfl (zAI rfl (zAI rfl zAd)))) (zAP rfl rfl zA7) rfl rfl⟩
   ·obtain⟨u,hu⟩:∃u,m.pool[i-1]?=some u:=⟨_,List.getElem?_eq_getElem (by omega)⟩
    have hud:m.pool.getD (i-1) default=u:=by rw[List.getD_eq_getElem?_getD,hu];rfl
    have hL:=zVx u v
    have hth:zFJ m.pool i=zQg u v:=by unfold zFJ;rw[hvd,hud,hr,decide_eq_false (by omega)];rfl
    have hu':m.pool[((i:Int)-1).toNat]?=some u:=by rw[show ((i:Int)-1).toNat=i-1 by omega];exact hu
    cases hl:zQg u v
    all_goals
     rw[hl]at hL hth
     unfold enCn at *
     skip
     repeat' first|apply en_n|apply zAK|apply zAA|apply zAF|apply w0|(apply zE2;exact rfl;exact rfl;first|assumption|omega)|(refine zAh zFM hR (zAa rfl zAR))|(refine zAh zKg hL (zAa rfl (zAa rfl zAR)))|(apply aJ (hd:=rfl);(first|exact zCw rfl|exact zDn rfl rfl rfl|exact Co_nn rfl);exact rfl;(with_reducible exact zD7);assumption;omega;exact fun _=>rfl)|apply ay (hd:=rfl)|exact zAJ rfl|exact zAD rfl|(apply zBU;exact rfl;(with_reducible exact zEW);exact rfl)|(apply zBL;exact rfl;exact rfl)|(apply zDX;exact rfl;exact rfl)|exact zBd rfl|exact zAj rfl rfl|exact zAc rfl rfl|(apply zAC;exact rfl;(with_reducible exact zCi))|(apply zAG;exact rfl;(with_reducible exact zA0);exact rfl;exact rfl)|(apply zBG;exact rfl;(with_reducible exact zEW);exact rfl;exact rfl;exact rfl)|(apply w1;exact rfl;exact rfl)|(apply zAL;exact rfl)|(apply zAM;exact rfl)|apply zAU|apply zAT|refine zAr (by kernel_rfl) (by kernel_rfl) ?_|apply en_r|apply eb_n|apply eb_r|apply zAY|(apply res1;exact rfl)
     all_goals first
      |omega
      |exact congrArg D.val (congrArg (Value.int .i64) (by unfold imgE;rw[if_neg (by omega),if_neg (fun h=>by have:=List.all_eq_true.1 h i (List.mem_range.2 hil);rw[hth]at this;cases this)]))
      |exact⟨i+1,⟨by omega,fun j hj=>by
        rcases Nat.lt_or_ge j i with h1|h1
        ·exact hi2 j h1
        ·rw[show j=i by omega];exact hth⟩,by omega,zAV (zAI rfl (zAI rfl (zAI rfl (zAI rfl zAd)))) (zAP rfl rfl zA7) rfl rfl⟩
 ·have hall:(List.range m.pool.length).all (zFJ m.pool)=true:=List.all_eq_true.2 fun j hj=>hi2 j (by have:=List.mem_range.1 hj;omega)
  have hA:=zMv m.code hE
  refine Stop.go ?_
  repeat' first|apply en_n|apply zAK|apply zAA|apply zAF|apply w0|(refine zAh zLc hA (zAa rfl zAR))|apply ay (hd:=rfl)|exact zAD rfl|(apply zAC;exact rfl;(with_reducible exact zBE))|(apply zAG;exact rfl;(with_reducible exact zBk);exact rfl;exact rfl)|apply zAT|apply zAY|(apply res1;exact rfl)
  exact congrArg D.val (congrArg (Value.int .i64) (by unfold imgE;rw[if_neg (by omega),if_pos hall]))
theorem zI7{m:Img}(h:imgE m=0): ImgOk m:=by
 unfold imgE at h
 split at h
 ·omega
 rename_i h1
 split at h
 case isFalse=>omega
 rename_i h2
 unfold asmE at h
 split at h
 ·omega
 rename_i h3
 split at h
 ·omega
 rename_i h4
 simp only[Bool.or_eq_true,decide_eq_true_eq,not_or]at h3
 refine⟨by omega,by omega,fun c hc=>?_,fun i hi=>?_⟩
 ·obtain⟨j,hj⟩:=List.mem_iff_getElem?.1 hc
  have:=List.all_eq_true.1 h2 j (List.mem_range.2 (List.getElem?_eq_some_iff.1 hj).1)
  unfold zFJ at this
  rw[List.getD_eq_getElem?_getD,hj]at this
  have hr:zHO c=true:=(Bool.and_eq_true_iff.1 this).1
  unfold zHO at hr
  split at hr
  ·rename_i ht
   simp only[Bool.and_eq_true,decide_eq_true_eq]at hr
   exact⟨fun _=>hr.2,by rw[hr.1];rfl⟩
  ·rename_i ht
   simp only[Bool.and_eq_true,decide_eq_true_eq]at hr
   exact⟨fun h=>absurd h ht,hr.2⟩
 ·have h5:zKd i=true:=by
   cases hq:zKd i with
   |true=>rfl
   |false=>exact absurd (List.any_eq_true.2 ⟨i,hi,by rw[hq];rfl⟩) h3.2
  have h6:(zID i.op&&decide (i.a≥(m.code.length:Int)))=false:=by
   cases hq:(zID i.op&&decide (i.a≥(m.code.length:Int)))with
   |false=>rfl
   |true=>exact absurd (List.any_eq_true.2 ⟨i,hi,hq⟩) h4
  simp only[zKd,zGF,zGu,Bool.and_eq_true,decide_eq_true_eq]at h5
  refine⟨by omega,by omega,by omega,by omega,by omega,by omega,fun h15=>?_⟩
  have hg:zID i.op=true:=by unfold zID zGF;simp;omega
  rw[hg]at h6
  simp at h6
  omega
theorem CRun.fin_{con:List UInt8→Bool}{m:Img}(him:ImgOk m){T:CK}: ∀(n:Nat) (c:CK),c.mu≤n→CRun con m T c→(T.bad=true∨T.work=[])∧CRun con m T T:=by
 intro n
 induction n with
 |zero =>
  intro c hn h
  by_cases hd:c.bad=true∨c.work=[]
  ·have:=h.done hd;subst this;exact⟨hd,h⟩
  ·simp only[not_or,Bool.not_eq_true]at hd
   obtain⟨k,s,-,-,-,-,-,-,hmu⟩:=h.next him hd.1 hd.2
   omega
 |succ n ih =>
  intro c hn h
  by_cases hd:c.bad=true∨c.work=[]
  ·have:=h.done hd;subst this;exact⟨hd,h⟩
  ·simp only[not_or,Bool.not_eq_true]at hd
   obtain⟨k,s,-,-,-,-,-,h',hmu⟩:=h.next him hd.1 hd.2
   exact ih _ (by omega) h'
theorem zWU{con:List UInt8→Bool}{m:Img}(him:ImgOk m): (ckT con m).bad=false↔zSE con m:=by
 obtain⟨h1,h2⟩:=CRun.fin_ him _ _ (Nat.le_refl _) (zQ5 con m)
 exact h2.ok h1
def verE(m:Img): Int:=if imgE m≠0 then imgE m else if(ckT conF m).bad then 190 else 0
theorem zPU{m:Img}(h:verE m=0): ImgOk m∧zSE conF m:=by
 unfold verE at h
 split at h
 ·contradiction
 rename_i h1
 have h1:imgE m=0:=by omega
 refine⟨zI7 h1,(zWU (zI7 h1)).1 ?_⟩
 cases hb:(ckT conF m).bad with
 |false=>rfl
 |true=>rw[hb]at h;exact absurd h (by decide)
theorem zRe(m:Img)(hp:m.pool.length≤2000000)(hE:m.code.length≤2000000)(ht:∀c∈m.pool,c.text.length≤2000000): zAp Tryz.prog 18 [zDY m] (i64 (verE m)):=by
 have hI:=zMc m hp hE ht
 refine zA8 Tryz.func18 rfl Tryz.ntmps18 Tryz.results18 rfl ?_
 intro wb St0
 by_cases h0:imgE m=0
 ·have hC:=zTh m (zI7 h0) _ rfl
  rw[h0]at hI
  have hv:verE m=if(ckT conF m).bad then 190 else 0:=by unfold verE;rw[if_neg (by omega)]
  rw[hv]
  cases hb:(ckT conF m).bad
  all_goals
   rw[hb]at hC
   unfold zDY at *
   skip
   repeat' first|apply en_n|apply zAK|apply zAA|apply zAF|apply w0|(apply zGJ;exact rfl;exact rfl;first|assumption|omega)|(refine zAh zGr hI (zAa rfl zAR))|(refine zAh zJB hC (zAa rfl zAR))|(apply aBox (hd:=rfl) (hro:=rfl);exact rfl;exact rfl)|apply ay (hd:=rfl)|exact zAJ rfl|exact zAD rfl|exact zBd rfl|exact zAm rfl rfl|(apply zBG;exact rfl;(with_reducible exact zDG);exact rfl;exact rfl;exact rfl)|(apply zAL;exact rfl)|(apply zAM;exact rfl)|apply zAU|apply zAT|apply en_r|apply zAY|(apply res1;exact rfl)
   all_goals rfl
 ·have hv:verE m=imgE m:=by unfold verE;rw[if_pos h0]
  rw[hv]
  unfold zDY at *
  skip
  repeat' first|apply en_n|apply zAK|apply zAA|apply zAF|apply w0|(apply zGs;exact rfl;exact rfl;first|assumption|omega)|(refine zAh zGr hI (zAa rfl zAR))|(apply aBox (hd:=rfl) (hro:=rfl);exact rfl;exact rfl)|apply ay (hd:=rfl)|exact zAJ rfl|exact zAD rfl|(apply zBG;exact rfl;(with_reducible exact zDG);exact rfl;exact rfl;exact rfl)|(apply zAL;exact rfl)|apply zAT|apply en_r|apply zAY|(apply res1;exact rfl)
  all_goals rfl
end Go.Proofs.YtcagoomibpcdlaaGreatDoor
