/- Parts. -/
import Derived.Test.YtjcgiiedaccjpaaGreatDoorMBH
import Derived.Test.YtjcgiiedaccjpaaGreatDoorMBI
import Derived.Test.YtjcgiiedaccjpaaGreatDoorMBJ
import Derived.Test.YtjcgiiedaccjpaaGreatDoorMBK
import Derived.Test.YtjcgiiedaccjpaaGreatDoorMBL
import Derived.Test.YtjcgiiedaccjpaaGreatDoorMBM
set_option maxHeartbeats 16000000
namespace Go.Proofs.YtjcgiiedaccjpaaGreatDoor
open _root_.Go.Proofs.Tryz
open Go.Sx Go.Ev
abbrev Rn.MG(R:Rn)(fx:Nat->Option Nat)(s:S)(y:List Nat): List Ob :=
 [.bx (fx 0) none [.d (zAm R.L),.d (dts R.T),.d (i64 (R.fuel:Int)),.d (i64 (s.steps:Int)),.buf 1 s.out.length,.d (i64 s.fin),.d (i64 s.raised)],.buf true 9 1 (s.out.map str),.gone]++hidL (zA2 y s.cells)
theorem Rn.MG_bel(R:Rn)(fx:Nat->Option Nat)(s:S)(y:List Nat): (R.MG fx s y).all (Ob.below (R.MG fx s y).length)=true:=by
 unfold Rn.MG
 rw[qBT,qAP]
 refine⟨qAF.2 fun p hp=>zCy (m:=2) (by simp) ?_,qAF.2 fun p hp=>zCy (qAR _) (zAh _ p hp).bel⟩
 have h:([.bx (fx 0) none [.d (zAm R.L),.d (dts R.T),.d (i64 (R.fuel:Int)),.d (i64 (s.steps:Int)),.buf 1 s.out.length,.d (i64 s.fin),.d (i64 s.raised)],.buf true 9 1 (s.out.map str),.gone]:List Ob).all (Ob.below 2)=true:=rfl
 exact qAF.1 h p hp
theorem zHG: ∀η:List Ob,Pre η η
 |[]=>trivial
 |_::η=>⟨fun _ _ _ h=>h,zHG η⟩
attribute [local irreducible] zAK Program.underlying Ylds zA3 alex zBc zBL awp zAc zBd zBi zBD zBI zDI zBS zA5 zBT zBY zBe zBs zC7 zBN VCall
theorem zJN(R:Rn)(s:S)(bs:List Nat)(hbs:bs.length=s.cells.length){k:Nat}{x:Nd}{ks:List Tr}(de:D)(hL:R.L.length<=1000000)(hA:At R.L k (.mk x ks))(h0:s.fin=0)(hf:(s.steps:Int)≠(R.fuel:Int))(hs:s.steps<=1000000)(h1:x.kind≠1)(h2:x.kind≠2)(h3:x.kind≠3)(h4:x.kind≠4)(h5:x.kind≠5)(h6:x.kind≠6)(h7:x.kind≠7)(h8:x.kind≠8)(h9:x.kind≠9)(h11:x.kind≠11)(h12:x.kind≠12)(hl:1<=ks.length)(hlb:ks.length<=1000000){s2:S}{t1:TypeId}{dd:List Nat->D}(hE1:R.To 23 [.ptr 0 0,.d (i64 ((kidAt k ks 0:Nat):Int)),.d de] { s with steps:=s.steps+1 } bs s2 (fun y=>.ifc t1 (dd y)))(hfin:s2.fin≠0): R.To 23 [.ptr 0 0,.d (i64 (k:Int)),.d de] s bs s2 (fun y=>.ifc t1 (dd y)):=by
 have hx:=hA.here
 have hK:=zCE R.L (k:Int) (by omega)
 have hkg:∀i,i<ks.length->(zBx R.L (k:Int))[i]?=some ((kidAt k ks i:Nat):Int):=fun i hi=>hA.kids_get hi
 have hkl:=hA.kids_len
 generalize zBx R.L (k:Int)=kf at *
 have hk0:kf[((0:Nat):Int).toNat]?=some ((kidAt k ks 0:Nat):Int):=hkg 0 (by omega)
 refine Rn.to_of hbs func23 rfl ntmps23 results23 rfl ?_
 intro wb St0 X fx
 repeat' first|(refine zBH (id:=6) [.y (.ptr 0 0),.y (.ptr 0 0),.y (.ptr 0 (0+0)),.y (.d (zAm R.L)),.y (.d (i64 (k:Int))),.y (.rptr x.av.flat),.y (.d (.agg (x.av.flat.take 4))),.y (.ptr 0 0),.y (.ptr 0 0),.y (.ptr 0 (0+0)),.y (.d (zAm R.L)),.y (.d (i64 (k:Int))),.y (.d (zBr kf)),.mk ⟨7,zsE,47,ndE x⟩ (some 14),.st 13 ⟨7,zsE,47,ndE x⟩,.y (.d (zBr kf))] (by kernel_rfl) (by kernel_rfl) (.inl rfl) ⟨⟨rfl,zAG rfl⟩,rfl,⟨rfl,zAS rfl⟩,rfl,⟨rfl,zAH rfl zAn⟩,rfl,⟨rfl,zAJ rfl zAY rfl rfl⟩,rfl,⟨rfl,zAC rfl⟩,rfl,⟨rfl,zD9 hx rfl rfl zAa⟩,rfl,⟨rfl,zAg rfl zAZ rfl⟩,rfl,⟨rfl,zAG rfl⟩,rfl,⟨rfl,zAS rfl⟩,rfl,⟨rfl,zAH rfl zAn⟩,rfl,⟨rfl,zAJ rfl zAY rfl rfl⟩,rfl,⟨rfl,zAC rfl⟩,rfl,⟨rfl,zAU zCA hK (zAP rfl (zAP rfl zAF))⟩,rfl,⟨rfl,rfl,rfl,zAx,by kernel_rfl,rfl⟩,rfl,⟨⟨_,_,_,_,_,rfl,rfl,rfl,zAZ,rfl⟩,rfl,rfl,rfl,rfl,rfl⟩,⟨rfl,zAB rfl⟩,rfl,trivial⟩ ?_)|(refine zCD (d:=7) (hidL (zA2 bs s.cells)) 2 rfl rfl rfl rfl rfl (zAh _) rfl rfl ?_)|apply en_n|apply zAE|apply zAA|apply zAD|apply w0|exact zBW rfl rfl|exact zBg rfl rfl|exact zAS rfl|(refine zBQ 3 [0,1] zCe (hE1) rfl rfl rfl rfl (SArgs_all rfl) rfl rfl (by decide) rfl rfl rfl rfl rfl rfl rfl (fun y0 hy0=>⟨rfl,rfl,rfl,zAb hy0.1 hbs hy0.2⟩) (fun y hy=>?_))|(apply aJ (hd:=rfl);(first|exact zAq rfl|exact Co_bb rfl rfl rfl|exact Co_nn rfl);exact rfl;(with_reducible exact zBl);assumption;omega;exact fun _=>rfl)|apply ay (hd:=rfl)|exact zAC rfl|exact zAB rfl|exact zAR rfl zAd|refine zBE rfl rfl ?_|exact zAG rfl|(apply zAH;exact rfl;(with_reducible first|exact zBb|exact zBG|exact zAy|exact fn_0))|(apply zAJ;exact rfl;(with_reducible first|exact zAz|exact zAd|exact zAp);exact rfl;exact rfl)|(refine w0' ?_)|(apply zAl;exact rfl;exact rfl;exact rfl;(with_reducible exact zAd);exact rfl;exact rfl;exact rfl;exact rfl)|refine zAQ rfl ?_|apply zAI|apply zAO|refine zAu (by kernel_rfl) (by kernel_rfl) ?_|apply eb_n
 all_goals first|omega|skip
 refine zAv (α:=Unit) (fun _=>True) (fun _=>[(0,.ptr 0 0),(2,.d de),(8,.d (zBr kf)),(20,.d (.ifc t1 (dd y))),(21,.d (i64 (1:Int)))]) (fun _=>R.MG fx s2 y) (fun _=>0) () trivial (zAV (Le_all rfl) (zAT rfl rfl (zAT rfl rfl (zJi rfl (zHG _)))) rfl (R.MG_bel fx s2 y)) ?_
 intro _ _
 repeat' first|(refine zBC 6 2 1 rfl rfl rfl rfl rfl rfl rfl ?_)|apply en_n|apply zAE|apply zAA|apply zAD|apply w0|refine k1u (hd:=rfl) rfl rfl ?_|exact zBW rfl rfl|exact zCz rfl rfl|exact zAS rfl|apply ay (hd:=rfl)|exact zAC rfl|exact zAB rfl|exact zAo rfl zDk|exact zCs rfl rfl|exact zAi rfl rfl|exact zAj rfl rfl|exact zAG rfl|exact zAH rfl zAy|exact zAJ rfl zAz rfl rfl|refine w1 rfl rfl ?_|(apply gD;exact rfl;exact rfl;all_goals intro hb)|refine zAN rfl ?_|refine zAQ rfl ?_|apply zA0|apply en_r|apply en_e|apply eb_e
 all_goals first|omega|exact Rn.retO (s':=s2) (y:=y) ⟨hy.1,hy.2⟩ rfl rfl rfl|skip
theorem zPl(R:Rn)(s:S)(bs:List Nat)(hbs:bs.length=s.cells.length){k:Nat}{x:Nd}{ks:List Tr}(de:D)(hL:R.L.length<=1000000)(hA:At R.L k (.mk x ks))(h0:s.fin=0)(hf:(s.steps:Int)≠(R.fuel:Int))(hs:s.steps<=1000000)(h1:x.kind≠1)(h2:x.kind≠2)(h3:x.kind≠3)(h4:x.kind≠4)(h5:x.kind≠5)(h6:x.kind≠6)(h7:x.kind≠7)(h8:x.kind≠8)(h9:x.kind≠9)(h11:x.kind≠11)(h12:x.kind≠12)(hl:1<=ks.length)(hlb:ks.length<=1000000){s2:S}{t1:TypeId}{dd:List Nat->D}(hE1:R.To 23 [.ptr 0 0,.d (i64 ((kidAt k ks 0:Nat):Int)),.d de] { s with steps:=s.steps+1 } bs s2 (fun y=>.ifc t1 (dd y)))(hfin:s2.fin=0)(hodd:ks.length%2=1){s4:S}{dv:List Nat->D}(en:List Nat->Nat->D)(ok:Nat->Bool)
  (hM:∀y i,Eok bs s2 y->i%2=1->i<ks.length->zBI prog 51 [.ptr 0 0,.d (i64 ((kidAt k ks i:Nat):Int)),.d (.ifc t1 (dd y)),.d de] (R.MB s2) (.tup [en y i,bl (ok i)]))
  (hX:∀y i,Eok bs s2 y->i%2=1->i+1<ks.length->(∀j,j%2=1->j<i->ok j=false)->ok i=true->R.To 23 [.ptr 0 0,.d (i64 ((kidAt k ks (i+1):Nat):Int)),.d (en y i)] s2 y s4 dv)
  (hN:(∀i,i%2=1->i<ks.length->ok i=false)->s4=(s2.raise (-1)).2/\dv=fun _=>encV [] (.num 0)):R.To 23 [.ptr 0 0,.d (i64 (k:Int)),.d de] s bs s4 (dv):=by
 have hS:=fun (y:List Nat) (hy:y.length=s2.cells.length)=>zI3 R s2 y hy (-1)
 have hx:=hA.here
 have hK:=zCE R.L (k:Int) (by omega)
 have hkg:∀i,i<ks.length->(zBx R.L (k:Int))[i]?=some ((kidAt k ks i:Nat):Int):=fun i hi=>hA.kids_get hi
 have hkl:=hA.kids_len
 generalize zBx R.L (k:Int)=kf at *
 have hk0:kf[((0:Nat):Int).toNat]?=some ((kidAt k ks 0:Nat):Int):=hkg 0 (by omega)
 refine Rn.to_of hbs func23 rfl ntmps23 results23 rfl ?_
 intro wb St0 X fx
 repeat' first|(refine zBH (id:=6) [.y (.ptr 0 0),.y (.ptr 0 0),.y (.ptr 0 (0+0)),.y (.d (zAm R.L)),.y (.d (i64 (k:Int))),.y (.rptr x.av.flat),.y (.d (.agg (x.av.flat.take 4))),.y (.ptr 0 0),.y (.ptr 0 0),.y (.ptr 0 (0+0)),.y (.d (zAm R.L)),.y (.d (i64 (k:Int))),.y (.d (zBr kf)),.mk ⟨7,zsE,47,ndE x⟩ (some 14),.st 13 ⟨7,zsE,47,ndE x⟩,.y (.d (zBr kf))] (by kernel_rfl) (by kernel_rfl) (.inl rfl) ⟨⟨rfl,zAG rfl⟩,rfl,⟨rfl,zAS rfl⟩,rfl,⟨rfl,zAH rfl zAn⟩,rfl,⟨rfl,zAJ rfl zAY rfl rfl⟩,rfl,⟨rfl,zAC rfl⟩,rfl,⟨rfl,zD9 hx rfl rfl zAa⟩,rfl,⟨rfl,zAg rfl zAZ rfl⟩,rfl,⟨rfl,zAG rfl⟩,rfl,⟨rfl,zAS rfl⟩,rfl,⟨rfl,zAH rfl zAn⟩,rfl,⟨rfl,zAJ rfl zAY rfl rfl⟩,rfl,⟨rfl,zAC rfl⟩,rfl,⟨rfl,zAU zCA hK (zAP rfl (zAP rfl zAF))⟩,rfl,⟨rfl,rfl,rfl,zAx,by kernel_rfl,rfl⟩,rfl,⟨⟨_,_,_,_,_,rfl,rfl,rfl,zAZ,rfl⟩,rfl,rfl,rfl,rfl,rfl⟩,⟨rfl,zAB rfl⟩,rfl,trivial⟩ ?_)|(refine zCD (d:=7) (hidL (zA2 bs s.cells)) 2 rfl rfl rfl rfl rfl (zAh _) rfl rfl ?_)|apply en_n|apply zAE|apply zAA|apply zAD|apply w0|exact zBW rfl rfl|exact zBg rfl rfl|exact zAS rfl|(refine zBQ 3 [0,1] zCe (hE1) rfl rfl rfl rfl (SArgs_all rfl) rfl rfl (by decide) rfl rfl rfl rfl rfl rfl rfl (fun y0 hy0=>⟨rfl,rfl,rfl,zAb hy0.1 hbs hy0.2⟩) (fun y hy=>?_))|(apply aJ (hd:=rfl);(first|exact zAq rfl|exact Co_bb rfl rfl rfl|exact Co_nn rfl);exact rfl;(with_reducible exact zBl);assumption;omega;exact fun _=>rfl)|apply ay (hd:=rfl)|exact zAC rfl|exact zAB rfl|exact zAR rfl zAd|refine zBE rfl rfl ?_|exact zAG rfl|(apply zAH;exact rfl;(with_reducible first|exact zBb|exact zBG|exact zAy|exact fn_0))|(apply zAJ;exact rfl;(with_reducible first|exact zAz|exact zAd|exact zAp);exact rfl;exact rfl)|(refine w0' ?_)|(apply zAl;exact rfl;exact rfl;exact rfl;(with_reducible exact zAd);exact rfl;exact rfl;exact rfl;exact rfl)|refine zAQ rfl ?_|apply zAI|apply zAO|refine zAu (by kernel_rfl) (by kernel_rfl) ?_|apply eb_n
 all_goals first|omega|skip
 refine zAv (α:=Nat) (fun i=>i%2=1/\i<=ks.length/\∀j,j%2=1->j<i->ok j=false) (fun i=>[(0,.ptr 0 0),(2,.d de),(8,.d (zBr kf)),(20,.d (.ifc t1 (dd y))),(21,.d (i64 (i:Int)))]) (fun _=>R.MG fx s2 y) (fun i=>ks.length-i) 1 ⟨rfl,hl,fun j h1 h2=>by omega⟩ (zAV (Le_all rfl) (zAT rfl rfl (zAT rfl rfl (zJi rfl (zHG _)))) rfl (R.MG_bel fx s2 y)) ?_
 rintro i ⟨hi1,hi2,hi3⟩
 rcases qAI i ks.length with hlt|hge
 ·have hm:=hM y i hy hi1 hlt
  have hki:kf[(i:Int).toNat]?=some ((kidAt k ks i:Nat):Int):=hkg i hlt
  have hi4:i+1<ks.length:=by omega
  have hki1:kf[((i:Int)+1).toNat]?=some ((kidAt k ks (i+1):Nat):Int):=by rw[show ((i:Int)+1).toNat=i+1 by omega];exact hkg (i+1) hi4
  have hlt':(i:Int)<(kf.length:Int):=by omega
  cases hok:ok i with
  |true =>
   rw[hok]at hm
   have hx2:=hX y i hy hi1 hi4 hi3 hok
   repeat' first|(refine zBC 6 2 1 rfl rfl rfl rfl rfl rfl rfl ?_)|apply en_n|apply zAE|apply zAA|apply zAD|apply w0|exact zBh rfl rfl|exact zBU rfl rfl|exact zAS rfl|(refine zCr [0,1] [] rfl rfl zJG (hm) rfl (SArgs_all rfl) rfl (by decide) rfl rfl rfl rfl)|(refine zBQ 3 [0,1] zCe (hx2) rfl rfl rfl rfl (SArgs_all rfl) rfl rfl (by decide) rfl rfl rfl rfl rfl rfl rfl (fun y0 hy0=>⟨rfl,rfl,rfl,zAb hy0.1 hy.2 hy0.2⟩) (fun z hz=>?_))|(apply aJ (hd:=rfl);(first|exact zAq rfl|exact Co_bb rfl rfl rfl|exact Co_nn rfl);exact rfl;(with_reducible exact zBl);assumption;omega;exact fun _=>rfl)|apply ay (hd:=rfl)|exact zAC rfl|exact zAB rfl|exact zAR rfl zAd|exact zAo rfl zDk|refine zBE rfl rfl ?_|exact zAi rfl rfl|exact zAe rfl rfl|exact zAG rfl|exact zAH rfl zAy|exact zAJ rfl zAz rfl rfl|refine w1 rfl rfl ?_|refine zAN rfl ?_|apply zAI|apply zAO|apply en_r|apply eb_r
   all_goals first|omega|exact Rn.retO (s':=s4) (y:=z) ⟨hy.1.trans (hz.1),hz.2⟩ rfl rfl rfl|skip
  |false =>
   rw[hok]at hm
   repeat' first|apply en_n|apply zAE|apply zAA|apply zAD|apply w0|exact zBh rfl rfl|exact zBU rfl rfl|exact zAS rfl|(refine zCr [0,1] [] rfl rfl zJG (hm) rfl (SArgs_all rfl) rfl (by decide) rfl rfl rfl rfl)|(apply aJ (hd:=rfl);(first|exact zAq rfl|exact Co_bb rfl rfl rfl|exact Co_nn rfl);exact rfl;(with_reducible exact zBl);assumption;omega;exact fun _=>rfl)|apply ay (hd:=rfl)|exact zAC rfl|exact zAB rfl|exact zAR rfl zAd|exact zAo rfl zDk|refine zBE rfl rfl ?_|exact zAi rfl rfl|exact zAe rfl rfl|exact zAG rfl|exact zAH rfl zAy|exact zAJ rfl zAz rfl rfl|refine w1 rfl rfl ?_|refine zAN rfl ?_|refine zAQ rfl ?_|apply zAI|apply zAO|apply eb_n
   all_goals first|omega|skip
   exact⟨i+2,⟨by omega,by omega,fun j h1 h2=>by
    rcases qAI j i with h3|h3
    ·exact hi3 j h1 h3
    ·rw[show j=i by omega];exact hok⟩,by omega,(zAV (Le_all rfl) (zAT rfl rfl (zAT rfl rfl (zJi rfl (zHG _)))) rfl (R.MG_bel fx s2 y))⟩
 ·have hge':¬(i:Int)<(kf.length:Int):=by omega
  obtain⟨rfl,rfl⟩:=hN fun j h1 h2=>hi3 j h1 (by omega)
  skip
  repeat' first|(refine zBC 6 2 1 rfl rfl rfl rfl rfl rfl rfl ?_)|apply en_n|apply zAE|apply zAA|apply zAD|apply w0|refine k1u (hd:=rfl) rfl rfl ?_|exact zCT rfl rfl|exact zBg rfl rfl|exact zAS rfl|(refine zBQ 3 [0,1] zHB (hS y hy.2) rfl rfl rfl rfl (SArgs_all rfl) rfl rfl (by decide) rfl rfl rfl rfl rfl rfl rfl (fun y0 hy0=>⟨rfl,rfl,rfl,zAb hy0.1 hy.2 hy0.2⟩) (fun z hz=>?_))|apply ay (hd:=rfl)|exact zAC rfl|exact zAB rfl|exact zAo rfl zDk|exact zAj rfl rfl|exact zAG rfl|exact zAH rfl zAy|exact zAJ rfl zAz rfl rfl|refine zAQ rfl ?_|apply zAO|apply zA0|apply en_e|apply eb_e
  all_goals first|omega|exact Rn.retO (s':=(s2.raise (-1)).2) (y:=z) ⟨hy.1.trans (hz.1),hz.2⟩ rfl rfl rfl|skip
end Go.Proofs.YtjcgiiedaccjpaaGreatDoor
namespace Go.Proofs.YtjcgiiedaccjpaaGreatDoor
open Go.Sx Go.Ev
theorem zM3{P:Pg}{ex:S->Nat->Env->V×S}{s:S}{k:Nat}{v:V}{e:Env}{D:Nat}{i:Nat}(hi:i%2=1)(ht:(matP P D (P.kid k i) v e).2=true): ∀(c i0:Nat),i0%2=1->i0<=i->i<i0+2*c->(∀j,j%2=1->i0<=j->j<i->(matP P D (P.kid k j) v e).2=false)->s.arms ex (mat P D) P k v e c i0=ex s (P.kid k (i+1)) (matP P D (P.kid k i) v e).1
 |0,i0,_,h2,h3,_=>by omega
 |c+1,i0,h1,h2,h3,h4=>by
  unfold S.arms
  rw[zHe]
  by_cases hq:i0=i
  ·subst hq;rw[if_pos ht]
  ·rw[if_neg (by rw[h4 i0 h1 (qAM _) (by omega)];decide)]
   exact zM3 hi ht c (i0+2) (by omega) (by omega) (by omega) (fun j a b d=>h4 j a (by omega) d)
theorem zKv{P:Pg}{ex:S->Nat->Env->V×S}{s:S}{k:Nat}{v:V}{e:Env}{D:Nat}: ∀(c i0:Nat),i0%2=1->(∀j,j%2=1->i0<=j->j<i0+2*c->(matP P D (P.kid k j) v e).2=false)->s.arms ex (mat P D) P k v e c i0=s.raise (-1)
 |0,_,_,_=>rfl
 |c+1,i0,h1,h4=>by
  unfold S.arms
  rw[zHe,if_neg (by rw[h4 i0 h1 (qAM _) (by omega)];decide)]
  exact zKv c (i0+2) (by omega) (fun j a b d=>h4 j a (by omega) (by omega))
structure Rn.Ok(R:Rn): Prop where
 len:R.L.length<=4000
 fuel:R.fuel<=100000
 dts:DtL R.T
 con:∀x∈R.L,x.kind=4->∃i j d c,zD3 R.T x.text=some (i,j)/\R.T[i]?=some d/\d.cons[j]?=some c
structure Cn(R:Rn)(f:Nat)(s:S)(N:Nat): Prop where
 wf:s.wf
 cells:VsOk R N s.cells
 out:s.out.length<=N
 nle:N<=s.steps
 le:s.steps<=R.fuel
 fu:R.fuel<f+s.steps
structure Ce(R:Rn)(s:S)(N:Nat)(e:Env): Prop where
 wf:e.wf s.cells.length
 ok:EOk R N e
structure Nx(R:Rn)(f:Nat)(s:S)(N:Nat)(r:V×S)(M:Nat): Prop where
 cn:Cn R f r.2 M
 cl:s.cells.length<=r.2.cells.length
 nm:N<=M
 vw:r.1.wf r.2.cells.length
 vo:VOk R M r.1
theorem Cn.next{R:Rn}{f:Nat}{s:S}{N:Nat}(h:Cn R f s N){k:Nat}{e:Env}(hk:ExAt R k)(he:Ce R s N e): Nx R f s N (exp shwW R.pg f s k e) (N+((exp shwW R.pg f s k e).2.steps-s.steps)):=by
 have h1:=zPm R f s k e N hk he.ok h.cells h.out
 have h2:=zSe (shw:=shwW) R.pg f s k e h.wf he.wf
 have h3:(exp shwW R.pg f s k e).2.steps<=R.fuel:=zId (shw:=shwW) R.pg f s k e h.le
 have h4:=h1.le
 have h5:=h.nle
 have h6:=h.fu
 exact⟨⟨h2.st,h1.cells,h1.out,by omega,h3,by omega⟩,h2.le,Nat.le_add_right _ _,h2.val,h1.val⟩
theorem Ce.up{R:Rn}{s t:S}{N M:Nat}{e:Env}(h:Ce R s N e)(hl:s.cells.length<=t.cells.length)(hM:N<=M): Ce R t M e:=⟨Env.wf_mono hl _ h.wf,EOk.mono hM _ h.ok⟩
theorem Rn.To.pay{R:Rn}{f:FuncId}{avs:List SV}{s s':S}{bs:List Nat}{v:V}(h:R.To f avs s bs s' (fun y=>encV y v)): R.To f avs s bs s' (fun y=>.ifc (tyV v) (payV y v)):=by rw[zGB]at h;exact h
abbrev ExTo(R:Rn)(f:Nat)(s:S)(k:Nat)(e:Env)(bs:List Nat): Prop:=R.To 23 [.ptr 0 0,.d (i64 (k:Int)),.d (encE bs e)] s bs (exp shwW R.pg f s k e).2 (fun y=>encV y (exp shwW R.pg f s k e).1)
theorem zSf{R:Rn}(hR:R.Ok): ∀(f:Nat) (s:S) (k:Nat) (e:Env) (bs:List Nat) (N:Nat),Cn R f s N->ExAt R k->Ce R s N e->bs.length=s.cells.length->ExTo R f s k e bs
 |0,s,k,e,bs,N,hC,_,_,_=>by have:=hC.le;have:=hC.fu;omega
 |f+1,s,k,e,bs,N,hC,⟨.mk x ks,hA,hw⟩,hE,hbs=>by
  have hs:=exSh hA hw
  have ih:=zSf hR f
  have hst:=hC.le
  have hfu:=hR.fuel
  have hL:R.L.length<=1000000:=by have:=hR.len;omega
  show R.To _ [.ptr 0 0,.d (i64 (k:Int)),.d (encE bs e)] s bs _ _
  unfold exp
  rw[R.node_at hA.here]
  by_cases h0:s.fin=0
  rotate_left
  ·rw[if_pos h0];exact zPo R s bs hbs k _ h0
  rw[if_neg (by omega:¬s.fin≠0)]
  by_cases hf:s.steps=R.pg.fuel
  ·rw[if_pos hf]
   have hf':(s.steps:Int)=(R.fuel:Int):=by rw[hf];rfl
   exact zRi R s bs hbs k _ h0 hf'
  rw[if_neg hf]
  have hfn:(s.steps:Int)≠(R.fuel:Int):=fun h=>hf (by show _=R.fuel;omega)
  have hs1:s.steps<R.fuel:=by have:s.steps≠R.fuel:=fun h=>hf h;omega
  have hsb:s.steps<=1000000:=by omega
  have hC1:Cn R f { s with steps:=s.steps+1 } N:=⟨hC.wf,hC.cells,hC.out,by have:=hC.nle;show N<=s.steps+1;omega,hs1,by have:=hC.fu;show R.fuel<f+(s.steps+1);omega⟩
  have hE1:Ce R { s with steps:=s.steps+1 } N e:=⟨hE.wf,hE.ok⟩
  have hok:=zGC bs e
  have hfl:=zE9 bs e
  dsimp only
  by_cases k1:x.kind=1
  ·rw[if_pos k1];exact zTq R s bs hbs _ hL hA h0 hfn hsb k1
  rw[if_neg k1]
  by_cases k2:x.kind=2
  ·rw[if_pos k2];exact zRh R s bs hbs _ hL hA h0 hfn hsb k2
  rw[if_neg k2]
  by_cases k3:x.kind=3
  ·rw[if_pos k3];exact zTn R s bs hbs _ hL hA h0 hfn hsb k3 e rfl
  rw[if_neg k3]
  by_cases k4:x.kind=4
  ·rw[if_pos k4]
   obtain⟨i,j,d,c,c1,c2,c3⟩:=hR.con x (qAE hA.here) k4
   have hn:R.pg.need x.text=c.args.length:=by
    show (zIH R.T (fR (zD3 R.T x.text)).1.toNat (fR (zD3 R.T x.text)).2.toNat).args.length=_
    rw[c1]
    show (zIH R.T (i:Int).toNat (j:Int).toNat).args.length=_
    rw[qAc,qAc,zGD c2 c3]
   rw[hn]
   exact zTs R s bs hbs _ hL hA h0 hfn hsb k4 hR.dts c1 c2 c3
  rw[if_neg k4]
  by_cases k5:x.kind=5
  ·have hl:=hs.c1 (.inl k5)
   rw[if_pos k5,R.kid_at hA (by omega)]
   exact zTr R s bs hbs _ hL hA h0 hfn hsb k5 (by omega) e rfl
  rw[if_neg k5]
  have sub:∀{t:S} {M:Nat} {y:List Nat} {k':Nat} {e':Env},Cn R f t M->ExAt R k'->Ce R t M e'->y.length=t.cells.length->R.To 23 [.ptr 0 0,.d (i64 (k':Int)),.d (encE y e')] t y (exp shwW R.pg f t k' e').2 (fun z=>encV z (exp shwW R.pg f t k' e').1):=fun {t M y k' e'} h1 h2 h3 h4=>ih t k' e' y M h1 h2 h3 h4
  have pre:∀{t:S} {y:List Nat},Eok bs t y->encE y e=encE bs e:=fun {t y} hy=>zJY hy.1 e (by rw[hbs];exact hE.wf)
  have first:0<ks.length->(x.kind≠10\/0%2=0)->ExAt R (kidAt k ks 0):=fun h1 h2=>zBp hA hw h1 h2
  by_cases k6:x.kind=6
  ·have hl:=hs.c2 (.inl k6)
   rw[if_pos k6,R.kid_at hA (j:=0) (by omega),R.kid_at hA (j:=1) (by omega)]
   have p0:=first (by omega) (.inr rfl)
   have p1:=zBp hA hw (j:=1) (by omega) (.inl (by omega))
   have t1:=sub (y:=bs) hC1 p0 hE1 hbs
   have n1:=hC1.next p0 hE1
   generalize exp shwW R.pg f { s with steps:=s.steps+1 } (kidAt k ks 0) e=r at *
   generalize N+(r.2.steps-(s.steps+1))=M1 at *
   have e2:=hE.up n1.cl n1.nm
   have t2:=fun (y:List Nat) (hy:Eok bs r.2 y)=>sub (y:=y) n1.cn p1 e2 hy.2
   have n2:=n1.cn.next p1 e2
   generalize exp shwW R.pg f r.2 (kidAt k ks 1) e=q at *
   generalize M1+(q.2.steps-r.2.steps)=M2 at *
   have hM2:M2<=100000:=by have:=n2.cn.nle;have:=n2.cn.le;omega
   refine zTt R s bs hbs _ hL hA h0 hfn hsb k6 (by omega) t1.pay (s3:=q.2) (t2:=tyV q.1) (d2:=fun z=>payV z q.1) (fun y hy=>?_) (fun y z hy hz=>?_)
   ·have:=(t2 y hy).pay
    rwa [pre hy]at this
   ·have hvw:r.1.wf y.length:=by rw[hy.2];exact n1.vw
    have:=zUB (R:=R) (s:=q.2) (bs:=z) hz.2 n2.cn.wf n2.cn.out hM2 (ex:=exp shwW R.pg f) (f:=r.1) (a:=q.1) (VOk.mono n2.nm _ n1.vo) n2.vo (V.wf_mono n2.cl _ n1.vw) n2.vw (fun _ k' e' h1 h2 h3=>sub n2.cn h1 ⟨h3,h2⟩ hz.2)
    rw[zHD hz.1 r.1 hvw,zFQ y r.1,zFQ z q.1]at this
    exact this
  rw[if_neg k6]
  by_cases k7:x.kind=7
  ·have hl:=hs.c2 (.inr (.inl k7))
   rw[if_pos k7,R.kid_at hA (j:=0) (by omega),R.kid_at hA (j:=1) (by omega)]
   have p0:=first (by omega) (.inr rfl)
   have p1:=zBp hA hw (j:=1) (by omega) (.inl (by omega))
   have t1:=sub (y:=bs) hC1 p0 hE1 hbs
   have n1:=hC1.next p0 hE1
   generalize exp shwW R.pg f { s with steps:=s.steps+1 } (kidAt k ks 0) e=r at *
   generalize N+(r.2.steps-(s.steps+1))=M1 at *
   have e2:=hE.up n1.cl n1.nm
   refine zTp R s bs hbs _ hL hA h0 hfn hsb k7 (by omega) hok hfl t1.pay (fun y hy=>?_)
   have:=sub (y:=y) (e':=.cons x.text r.1 e) n1.cn p1 ⟨⟨n1.vw,e2.wf⟩,⟨n1.vo,e2.ok⟩⟩ hy.2
   rw[show encE y (.cons x.text r.1 e)=.ref [str x.text,encV y r.1,encE y e]from rfl,pre hy,zFQ y r.1]at this
   exact this
  rw[if_neg k7]
  by_cases k8:x.kind=8
  ·have hl:=hs.c2 (.inr (.inr (.inl k8)))
   rw[if_pos k8,R.kid_at hA (j:=0) (by omega),R.kid_at hA (j:=1) (by omega)]
   obtain⟨x2,hx2,hr2⟩:=zMi hA hw k8
   have p1:=zBp hA hw (j:=1) (by omega) (.inl (by omega))
   by_cases hf2:s.steps+1=R.pg.fuel
   ·rw[if_pos hf2]
    exact zKS R s bs hbs _ hL hA h0 hfn hsb k8 (by have:s.steps+1=R.fuel:=hf2;omega)
   ·rw[if_neg hf2,R.node_at hx2]
    have hf3:s.steps+1≠R.fuel:=fun h=>hf2 h
    have hC2:Cn R f { s with steps:=s.steps+1+1 } N:=⟨hC.wf,hC.cells,hC.out,by have:=hC.nle;show N<=s.steps+1+1;omega,by show s.steps+1+1<=R.fuel;omega,by have:=hC.fu;show R.fuel<f+(s.steps+1+1);omega⟩
    have:=sub (y:=bs) (e':=.cons x.text (.fn x2.text (kidAt k ks 0+1) x.text e) e) hC2 p1 ⟨⟨hE.wf,hE.wf⟩,⟨⟨hr2,hE.ok⟩,hE.ok⟩⟩ hbs
    exact zTo R s bs hbs _ hL hA h0 hfn hsb k8 (by omega) (by omega) hok hfl hx2 this
  rw[if_neg k8]
  by_cases k9:x.kind=9
  ·have hl:=hs.c3 k9
   rw[if_pos k9,R.kid_at hA (j:=0) (by omega),R.kid_at hA (j:=1) (by omega),R.kid_at hA (j:=2) (by omega)]
   have p0:=first (by omega) (.inr rfl)
   have p1:=zBp hA hw (j:=1) (by omega) (.inl (by omega))
   have p2:=zBp hA hw (j:=2) (by omega) (.inl (by omega))
   have t1:=sub (y:=bs) hC1 p0 hE1 hbs
   have n1:=hC1.next p0 hE1
   generalize exp shwW R.pg f { s with steps:=s.steps+1 } (kidAt k ks 0) e=r at *
   generalize N+(r.2.steps-(s.steps+1))=M1 at *
   have e2:=hE.up n1.cl n1.nm
   obtain⟨v,t⟩:=r
   dsimp only at t1 n1 e2 ⊢
   have t1':=t1.pay
   by_cases hfin:t.fin=0
   rotate_left
   ·rw[if_pos hfin]
    rcases zF1 v with⟨n,rfl⟩|hv
    ·exact zIE R s bs hbs _ hL hA h0 hfn hsb k9 (by omega) t1' hfin
    ·exact zNg R s bs hbs _ hL hA h0 hfn hsb k9 (by omega) t1' (zFq hv) hfin
   rw[if_neg (by omega:¬t.fin≠0)]
   rcases zF1 v with⟨n,rfl⟩|hv
   ·dsimp only
    by_cases hn:n=0
    ·rw[if_pos hn]
     exact zPn R s bs hbs _ hL hA h0 hfn hsb k9 (by omega) t1' hfin hn (fun y hy=>by have:=sub (y:=y) n1.cn p2 e2 hy.2;rwa [pre hy]at this)
    ·rw[if_neg hn]
     exact zNf R s bs hbs _ hL hA h0 hfn hsb k9 (by omega) t1' hfin hn (fun y hy=>by have:=sub (y:=y) n1.cn p1 e2 hy.2;rwa [pre hy]at this)
   ·have:=zLa R s bs hbs _ hL hA h0 hfn hsb k9 (by omega) t1' (zFq hv) hfin
    cases v <;> first|exact this|exact absurd rfl (hv _)
  rw[if_neg k9]
  by_cases k11:x.kind=11
  ·have hl:=hs.c1 (.inr k11)
   rw[if_pos k11,R.kid_at hA (j:=0) (by omega)]
   have p0:=first (by omega) (.inr rfl)
   have t1:=sub (y:=bs) hC1 p0 hE1 hbs
   have n1:=hC1.next p0 hE1
   generalize exp shwW R.pg f { s with steps:=s.steps+1 } (kidAt k ks 0) e=r at *
   obtain⟨v,t⟩:=r
   dsimp only at t1 n1 ⊢
   have t1':=t1.pay
   by_cases hfin:t.fin=0
   rotate_left
   ·rw[if_pos hfin]
    rcases zF1 v with⟨n,rfl⟩|hv
    ·exact zGc R s bs hbs _ hL hA h0 hfn hsb k11 (by omega) t1' hfin
    ·exact zJM R s bs hbs _ hL hA h0 hfn hsb k11 (by omega) t1' (zFq hv) hfin
   rw[if_neg (by omega:¬t.fin≠0)]
   rcases zF1 v with⟨n,rfl⟩|hv
   ·exact zKT R s bs hbs _ hL hA h0 hfn hsb k11 (by omega) t1' hfin
   ·have:=zID R s bs hbs _ hL hA h0 hfn hsb k11 (by omega) t1' (zFq hv) hfin
    cases v <;> first|exact this|exact absurd rfl (hv _)
  rw[if_neg k11]
  by_cases k12:x.kind=12
  ·have hl:=hs.c2 (.inr (.inr (.inr k12)))
   rw[if_pos k12,R.kid_at hA (j:=0) (by omega),R.kid_at hA (j:=1) (by omega)]
   have p0:=first (by omega) (.inr rfl)
   have p1:=zBp hA hw (j:=1) (by omega) (.inl (by omega))
   have t1:=sub (y:=bs) hC1 p0 hE1 hbs
   have n1:=hC1.next p0 hE1
   generalize exp shwW R.pg f { s with steps:=s.steps+1 } (kidAt k ks 0) e=r at *
   generalize N+(r.2.steps-(s.steps+1))=M1 at *
   have e2:=hE.up n1.cl n1.nm
   by_cases hfin:r.2.fin=2
   ·rw[if_neg (by omega:¬r.2.fin≠2)]
    have hC3:Cn R f { r.2 with fin:=0 } M1:=⟨n1.cn.wf,n1.cn.cells,n1.cn.out,n1.cn.nle,n1.cn.le,n1.cn.fu⟩
    refine zLZ R s bs hbs _ hL hA h0 hfn hsb k12 (by omega) hok hfl t1.pay hfin (fun y hy=>?_)
    have:=sub (y:=y) (e':=.cons x.text (.num r.2.raised) e) hC3 p1 ⟨⟨trivial,e2.wf⟩,⟨trivial,e2.ok⟩⟩ hy.2
    rw[show encE y (.cons x.text (.num r.2.raised) e)=.ref [str x.text,encV y (.num r.2.raised),encE y e]from rfl,pre hy]at this
    exact this
   ·rw[if_pos hfin]
    have:=zNe R s bs hbs _ hL hA h0 hfn hsb k12 (by omega) t1.pay hfin
    rw[zGB];exact this
  rw[if_neg k12]
  have k10:x.kind=10:=by have:=hs.kind;omega
  obtain⟨hl,hodd⟩:=hs.c10 k10
  have hkn:=hs.kn
  rw[R.kid_at hA (j:=0) (by omega)]
  have p0:=first (by omega) (.inr rfl)
  have t1:=sub (y:=bs) hC1 p0 hE1 hbs
  have n1:=hC1.next p0 hE1
  generalize exp shwW R.pg f { s with steps:=s.steps+1 } (kidAt k ks 0) e=r at *
  generalize N+(r.2.steps-(s.steps+1))=M1 at *
  have e2:=hE.up n1.cl n1.nm
  have hlb:ks.length<=1000000:=by
   have h3:=hA.len
   rw[Tr.sz]at h3
   have:=zLP ks
   omega
  by_cases hfin:r.2.fin=0
  rotate_left
  ·rw[if_pos hfin]
   have:=zJN R s bs hbs _ hL hA h0 hfn hsb k1 k2 k3 k4 k5 k6 k7 k8 k9 k11 k12 (by omega) hlb t1.pay hfin
   rw[zGB];exact this
  rw[if_neg (by omega:¬r.2.fin≠0)]
  refine zPl R s bs hbs _ hL hA h0 hfn hsb k1 k2 k3 k4 k5 k6 k7 k8 k9 k11 k12 (by omega) hlb t1.pay hfin hodd (fun y i=>encE y (matP R.pg R.pg.deep (kidAt k ks i) r.1 e).1) (fun i=>(matP R.pg R.pg.deep (kidAt k ks i) r.1 e).2) (fun y i hy h1 h2=>?_) (fun y i hy h1 h2 h3 h4=>?_) (fun h3=>?_)
  ·have hk:=hA.kid (i:=i) (qAB h2)
   have:=zMQ R r.2 y hL R.pg.deep r.1 e (by have:=hk.len;show _<=R.L.length+1;omega) hk
   rw[zIB,pre hy,zFQ y r.1]at this
   exact this
  ·have hc:ks.length=2*((x.kids.toNat-1) / 2)+1:=by omega
   have e1:=zM3 (P:=R.pg) (ex:=exp shwW R.pg f) (s:=r.2) (k:=k) (v:=r.1) (e:=e) (D:=R.pg.deep) (i:=i) h1 (by rw[R.kid_at hA (by omega)];exact h4) ((x.kids.toNat-1) / 2) 1 rfl (by omega) (by omega) (fun j a b d=>by rw[R.kid_at hA (by omega)];exact h3 j a d)
   rw[e1,R.kid_at hA (by omega),R.kid_at hA (by omega)]
   have hwf:∀z,mat R.pg R.pg.deep (kidAt k ks i) r.1 e=some z->z.wf r.2.cells.length:=fun z hz=>zO4 R.pg R.pg.deep _ _ _ _ n1.vw e2.wf hz
   have hme:=zHe R.pg R.pg.deep (kidAt k ks i) r.1 e
   rw[if_pos h4]at hme
   exact sub (y:=y) n1.cn (zBp hA hw (by omega) (.inr (by omega))) ⟨hwf _ hme,zI8 _ _ _ _ _ n1.vo e2.ok⟩ hy.2
  ·have e1:=zKv (P:=R.pg) (ex:=exp shwW R.pg f) (s:=r.2) (k:=k) (v:=r.1) (e:=e) (D:=R.pg.deep) ((x.kids.toNat-1) / 2) 1 rfl (fun j a b d=>by rw[R.kid_at hA (by omega)];exact h3 j a (by omega))
   rw[e1]
   exact⟨rfl,rfl⟩
