/- Parts. -/
import Derived.Test.YtjcgiiedaccjpaaGreatDoorPBD
import Derived.Test.YtjcgiiedaccjpaaGreatDoorPBE
import Derived.Test.YtjcgiiedaccjpaaGreatDoorPBF
import Derived.Test.YtjcgiiedaccjpaaGreatDoorPBG
set_option maxHeartbeats 16000000
namespace Go.Proofs.YtjcgiiedaccjpaaGreatDoor
open _root_.Go.Proofs.Tryz
open Go.Sx Go.Ev
abbrev Rn.MG(R:Rn)(fx:Nat->Option Nat)(s:S)(y:List Nat): List Ob :=
 [.bx (fx 0) none [.d (zAu R.L),.d (dts R.T),.d (i64 (R.fuel:Int)),.d (i64 (s.steps:Int)),.buf 1 s.out.length,.d (i64 s.fin),.d (i64 s.raised)],.buf true 9 1 (s.out.map str),.gone]++hidL (zBc y s.cells)
theorem Rn.MG_bel(R:Rn)(fx:Nat->Option Nat)(s:S)(y:List Nat): (R.MG fx s y).all (Ob.below (R.MG fx s y).length)=true:=by
 unfold Rn.MG
 rw[qBp,qAR]
 refine⟨qAI.2 fun p hp=>zEC (m:=2) sI ?_,qAI.2 fun p hp=>zEC (qAO _) (zBF _ p hp).bel⟩
 have h:([.bx (fx 0) none [.d (zAu R.L),.d (dts R.T),.d (i64 (R.fuel:Int)),.d (i64 (s.steps:Int)),.buf 1 s.out.length,.d (i64 s.fin),.d (i64 s.raised)],.buf true 9 1 (s.out.map str),.gone]:List Ob).all (Ob.below 2)=true:=rfl
 exact qAI.1 h p hp
theorem zKD: ∀η:List Ob,Pre η η
 |[]=>trivial
 |_::η=>⟨fun _ _ _ h=>h,zKD η⟩
attribute [local irreducible] zAQ Program.underlying Ylds zBJ alex zBk zBZ awp zAX FCall zBo zBR zBX zEg zBb zBD zBd zBj zBn zBu zEL zBP VCall
theorem zM5(R:Rn)(s:S)(bs:List Nat)(hbs:bs.length=s.cells.length){k:Nat}{x:Nd}{ks:List Tr}(de:D)(hL:R.L.length<=1000000)(hA:At R.L k (.mk x ks))(h0:s.fin=0)(hf:(s.steps:Int)≠(R.fuel:Int))(hs:s.steps<=1000000)(h1:x.kind≠1)(h2:x.kind≠2)(h3:x.kind≠3)(h4:x.kind≠4)(h5:x.kind≠5)(h6:x.kind≠6)(h7:x.kind≠7)(h8:x.kind≠8)(h9:x.kind≠9)(h11:x.kind≠11)(h12:x.kind≠12)(hl:1<=ks.length)(hlb:ks.length<=1000000){s2:S}{t1:TypeId}{dd:List Nat->D}(hE1:R.To 23 [.ptr 0 0,.d (i64 ((kidAt k ks 0:Nat):Int)),.d de] { s with steps:=s.steps+1 } bs s2 (fun y=>.ifc t1 (dd y)))(hfin:s2.fin≠0): R.To 23 [.ptr 0 0,.d (i64 (k:Int)),.d de] s bs s2 (fun y=>.ifc t1 (dd y)):=by
 have hx:=hA.here
 have hK:=zC9 R.L (k:Int) oM
 have hkg:∀i,i<ks.length->(zB3 R.L (k:Int))[i]?=some ((kidAt k ks i:Nat):Int):=fun i hi=>hA.kids_get hi
 have hkl:=hA.kids_len
 generalize zB3 R.L (k:Int)=kf at *
 have hk0:kf[((0:Nat):Int).toNat]?=some ((kidAt k ks 0:Nat):Int):=hkg 0 oM
 refine Rn.to_of hbs func23 rfl ntmps23 results23 rfl ?_
 intro wb St0 X fx
 repeat' first|(refine zBe (id:=6) [.y (.ptr 0 0),.y (.ptr 0 0),.y (.ptr 0 (0+0)),.y (.d (zAu R.L)),.y (.d (i64 (k:Int))),.y (.rptr x.av.flat),.y (.d (.agg (x.av.flat.take 4))),.y (.ptr 0 0),.y (.ptr 0 0),.y (.ptr 0 (0+0)),.y (.d (zAu R.L)),.y (.d (i64 (k:Int))),.y (.d (zBq kf)),.mk ⟨7,zsE,47,ndE x⟩ (some 14),.st 13 ⟨7,zsE,47,ndE x⟩,.y (.d (zBq kf))] kR kR (.inl rfl) pAE ?_)|(refine zDI (d:=7) (hidL (zBc bs s.cells)) 2 rfl rfl rfl rfl rfl (zBF _) rfl rfl ?_)|apply en_n|apply zAE|apply zAA|apply zAD|apply w0|(refine zCH 3 [0,1] zDm (hE1) rfl rfl rfl rfl (SArgs_all rfl) rfl rfl dC rfl rfl rfl rfl rfl rfl rfl (fun y0 hy0=>⟨rfl,rfl,rfl,zA1 hy0.1 hbs hy0.2⟩) (fun y hy=>?_))|refine aJA ?_|refine ayA rfl ?_|refine ayQ rfl ?_|apply ay (hd:=rfl)|refine zBN rfl rfl ?_|(refine w0' ?_)|refine aStA ?_|refine zAK rfl ?_|apply zAH|apply zAM|refine awDA ?_|apply eb_n
 all_goals first|omega|skip
 refine zAt (α:=Unit) (fun _=>True) (fun _=>[(0,.ptr 0 0),(2,.d de),(8,.d (zBq kf)),(20,.d (.ifc t1 (dd y))),(21,.d (i64 (1:Int)))]) (fun _=>R.MG fx s2 y) (fun _=>0) () trivial (zAV (Le_all rfl) (zAT rfl rfl (zAT rfl rfl (zNT rfl (zKD _)))) rfl (R.MG_bel fx s2 y)) ?_
 intro _ _
 repeat' first|(refine zB0 6 2 1 rfl rfl rfl rfl rfl rfl rfl ?_)|apply en_n|apply zAE|apply zAA|apply zAD|apply w0|refine k1u (hd:=rfl) rfl rfl ?_|refine ayA rfl ?_|refine ayQ rfl ?_|apply ay (hd:=rfl)|exact zCt rfl rfl|refine w1 rfl rfl ?_|(apply gD;exact rfl;exact rfl;all_goals intro hb)|refine zAJ rfl ?_|refine zAK rfl ?_|apply zAz|apply en_r|apply en_e|apply eb_e
 all_goals first|omega|exact Rn.retO (s':=s2) (y:=y) ⟨hy.1,hy.2⟩ rfl rfl rfl|skip
theorem zVM(R:Rn)(s:S)(bs:List Nat)(hbs:bs.length=s.cells.length){k:Nat}{x:Nd}{ks:List Tr}(de:D)(hL:R.L.length<=1000000)(hA:At R.L k (.mk x ks))(h0:s.fin=0)(hf:(s.steps:Int)≠(R.fuel:Int))(hs:s.steps<=1000000)(h1:x.kind≠1)(h2:x.kind≠2)(h3:x.kind≠3)(h4:x.kind≠4)(h5:x.kind≠5)(h6:x.kind≠6)(h7:x.kind≠7)(h8:x.kind≠8)(h9:x.kind≠9)(h11:x.kind≠11)(h12:x.kind≠12)(hl:1<=ks.length)(hlb:ks.length<=1000000){s2:S}{t1:TypeId}{dd:List Nat->D}(hE1:R.To 23 [.ptr 0 0,.d (i64 ((kidAt k ks 0:Nat):Int)),.d de] { s with steps:=s.steps+1 } bs s2 (fun y=>.ifc t1 (dd y)))(hfin:s2.fin=0)(hodd:ks.length%2=1){s4:S}{dv:List Nat->D}(en:List Nat->Nat->D)(ok:Nat->Bool)
  (hM:∀y i,Eok bs s2 y->i%2=1->i<ks.length->zBX prog 51 [.ptr 0 0,.d (i64 ((kidAt k ks i:Nat):Int)),.d (.ifc t1 (dd y)),.d de] (R.MB s2) (.tup [en y i,bl (ok i)]))
  (hX:∀y i,Eok bs s2 y->i%2=1->i+1<ks.length->(∀j,j%2=1->j<i->ok j=false)->ok i=true->R.To 23 [.ptr 0 0,.d (i64 ((kidAt k ks (i+1):Nat):Int)),.d (en y i)] s2 y s4 dv)
  (hN:(∀i,i%2=1->i<ks.length->ok i=false)->s4=(s2.raise (-1)).2/\dv=fun _=>encV [] (.num 0)):R.To 23 [.ptr 0 0,.d (i64 (k:Int)),.d de] s bs s4 (dv):=by
 have hS:=fun (y:List Nat) (hy:y.length=s2.cells.length)=>zMh R s2 y hy (-1)
 have hx:=hA.here
 have hK:=zC9 R.L (k:Int) oM
 have hkg:∀i,i<ks.length->(zB3 R.L (k:Int))[i]?=some ((kidAt k ks i:Nat):Int):=fun i hi=>hA.kids_get hi
 have hkl:=hA.kids_len
 generalize zB3 R.L (k:Int)=kf at *
 have hk0:kf[((0:Nat):Int).toNat]?=some ((kidAt k ks 0:Nat):Int):=hkg 0 oM
 refine Rn.to_of hbs func23 rfl ntmps23 results23 rfl ?_
 intro wb St0 X fx
 repeat' first|(refine zBe (id:=6) [.y (.ptr 0 0),.y (.ptr 0 0),.y (.ptr 0 (0+0)),.y (.d (zAu R.L)),.y (.d (i64 (k:Int))),.y (.rptr x.av.flat),.y (.d (.agg (x.av.flat.take 4))),.y (.ptr 0 0),.y (.ptr 0 0),.y (.ptr 0 (0+0)),.y (.d (zAu R.L)),.y (.d (i64 (k:Int))),.y (.d (zBq kf)),.mk ⟨7,zsE,47,ndE x⟩ (some 14),.st 13 ⟨7,zsE,47,ndE x⟩,.y (.d (zBq kf))] kR kR (.inl rfl) pAE ?_)|(refine zDI (d:=7) (hidL (zBc bs s.cells)) 2 rfl rfl rfl rfl rfl (zBF _) rfl rfl ?_)|apply en_n|apply zAE|apply zAA|apply zAD|apply w0|(refine zCH 3 [0,1] zDm (hE1) rfl rfl rfl rfl (SArgs_all rfl) rfl rfl dC rfl rfl rfl rfl rfl rfl rfl (fun y0 hy0=>⟨rfl,rfl,rfl,zA1 hy0.1 hbs hy0.2⟩) (fun y hy=>?_))|refine aJA ?_|refine ayA rfl ?_|refine ayQ rfl ?_|apply ay (hd:=rfl)|refine zBN rfl rfl ?_|(refine w0' ?_)|refine aStA ?_|refine zAK rfl ?_|apply zAH|apply zAM|refine awDA ?_|apply eb_n
 all_goals first|omega|skip
 refine zAt (α:=Nat) (fun i=>i%2=1/\i<=ks.length/\∀j,j%2=1->j<i->ok j=false) (fun i=>[(0,.ptr 0 0),(2,.d de),(8,.d (zBq kf)),(20,.d (.ifc t1 (dd y))),(21,.d (i64 (i:Int)))]) (fun _=>R.MG fx s2 y) (fun i=>ks.length-i) 1 ⟨rfl,hl,fun j h1 h2=>by omega⟩ (zAV (Le_all rfl) (zAT rfl rfl (zAT rfl rfl (zNT rfl (zKD _)))) rfl (R.MG_bel fx s2 y)) ?_
 rintro i ⟨hi1,hi2,hi3⟩
 rcases qAF i ks.length with hlt|hge
 ·have hm:=hM y i hy hi1 hlt
  have hki:kf[(i:Int).toNat]?=some ((kidAt k ks i:Nat):Int):=hkg i hlt
  have hi4:i+1<ks.length:=by omega
  have hki1:kf[((i:Int)+1).toNat]?=some ((kidAt k ks (i+1):Nat):Int):=by rw[show ((i:Int)+1).toNat=i+1 by omega];exact hkg (i+1) hi4
  have hlt':(i:Int)<(kf.length:Int):=by omega
  cases hok:ok i with
  |true =>
   rw[hok]at hm
   have hx2:=hX y i hy hi1 hi4 hi3 hok
   repeat' first|(refine zB0 6 2 1 rfl rfl rfl rfl rfl rfl rfl ?_)|apply en_n|apply zAE|apply zAA|apply zAD|apply w0|exact qcA [0,1] [] zMw (hm)|(refine zCH 3 [0,1] zDm (hx2) rfl rfl rfl rfl (SArgs_all rfl) rfl rfl dC rfl rfl rfl rfl rfl rfl rfl (fun y0 hy0=>⟨rfl,rfl,rfl,zA1 hy0.1 hy.2 hy0.2⟩) (fun z hz=>?_))|refine aJA ?_|refine ayA rfl ?_|refine ayQ rfl ?_|apply ay (hd:=rfl)|refine zBN rfl rfl ?_|refine w1 rfl rfl ?_|refine zAJ rfl ?_|apply zAH|apply zAM|apply en_r|apply eb_r
   all_goals first|omega|exact Rn.retO (s':=s4) (y:=z) ⟨hy.1.trans (hz.1),hz.2⟩ rfl rfl rfl|skip
  |false =>
   rw[hok]at hm
   repeat' first|apply en_n|apply zAE|apply zAA|apply zAD|apply w0|exact qcA [0,1] [] zMw (hm)|refine aJA ?_|refine ayA rfl ?_|refine ayQ rfl ?_|apply ay (hd:=rfl)|refine zBN rfl rfl ?_|refine w1 rfl rfl ?_|refine zAJ rfl ?_|refine zAK rfl ?_|apply zAH|apply zAM|apply eb_n
   all_goals first|omega|skip
   exact⟨i+2,⟨by omega,by omega,fun j h1 h2=>by
    rcases qAF j i with h3|h3
    ·exact hi3 j h1 h3
    ·rw[show j=i by omega];exact hok⟩,by omega,(zAV (Le_all rfl) (zAT rfl rfl (zAT rfl rfl (zNT rfl (zKD _)))) rfl (R.MG_bel fx s2 y))⟩
 ·have hge':¬(i:Int)<(kf.length:Int):=by omega
  obtain⟨rfl,rfl⟩:=hN fun j h1 h2=>hi3 j h1 oM
  skip
  repeat' first|(refine zB0 6 2 1 rfl rfl rfl rfl rfl rfl rfl ?_)|apply en_n|apply zAE|apply zAA|apply zAD|apply w0|refine k1u (hd:=rfl) rfl rfl ?_|(refine zCH 3 [0,1] zJ5 (hS y hy.2) rfl rfl rfl rfl (SArgs_all rfl) rfl rfl dC rfl rfl rfl rfl rfl rfl rfl (fun y0 hy0=>⟨rfl,rfl,rfl,zA1 hy0.1 hy.2 hy0.2⟩) (fun z hz=>?_))|refine ayA rfl ?_|refine ayQ rfl ?_|refine zAK rfl ?_|apply zAM|apply zAz|apply en_e|apply eb_e
  all_goals first|omega|exact Rn.retO (s':=(s2.raise (-1)).2) (y:=z) ⟨hy.1.trans (hz.1),hz.2⟩ rfl rfl rfl|skip
end Go.Proofs.YtjcgiiedaccjpaaGreatDoor
namespace Go.Proofs.YtjcgiiedaccjpaaGreatDoor
open Go.Sx Go.Ev
theorem zRn{P:Pg}{ex:S->Nat->Env->V×S}{s:S}{k:Nat}{v:V}{e:Env}{D:Nat}{i:Nat}(hi:i%2=1)(ht:(matP P D (P.kid k i) v e).2=true): ∀(c i0:Nat),i0%2=1->i0<=i->i<i0+2*c->(∀j,j%2=1->i0<=j->j<i->(matP P D (P.kid k j) v e).2=false)->s.arms ex (mat P D) P k v e c i0=ex s (P.kid k (i+1)) (matP P D (P.kid k i) v e).1
 |0,i0,_,h2,h3,_=>by omega
 |c+1,i0,h1,h2,h3,h4=>by
  unfold S.arms
  rw[zH2]
  by_cases hq:i0=i
  ·subst hq;rw[if_pos ht]
  ·rw[if_neg (by rw[h4 i0 h1 (qAN _) oM];decide)]
   exact zRn hi ht c (i0+2) oM oM oM (fun j a b d=>h4 j a oM d)
theorem zO9{P:Pg}{ex:S->Nat->Env->V×S}{s:S}{k:Nat}{v:V}{e:Env}{D:Nat}: ∀(c i0:Nat),i0%2=1->(∀j,j%2=1->i0<=j->j<i0+2*c->(matP P D (P.kid k j) v e).2=false)->s.arms ex (mat P D) P k v e c i0=s.raise (-1)
 |0,_,_,_=>rfl
 |c+1,i0,h1,h4=>by
  unfold S.arms
  rw[zH2,if_neg (by rw[h4 i0 h1 (qAN _) oM];decide)]
  exact zO9 c (i0+2) oM (fun j a b d=>h4 j a oM oM)
structure Rn.Ok(R:Rn): Prop where
 len:R.L.length<=4000
 fuel:R.fuel<=100000
 dts:DtL R.T
 con:∀x∈R.L,x.kind=4->∃i j d c,zEA R.T x.text=some (i,j)/\R.T[i]?=some d/\d.cons[j]?=some c
structure Cn(R:Rn)(f:Nat)(s:S)(N:Nat): Prop where
 wf:s.wf
 cells:VsOk R N s.cells
 out:s.out.length<=N
 nle:N<=s.steps
 le:s.steps<=R.fuel
 fu:R.fuel<f+s.steps
structure Ce(R:Rn)(s:S)(N:Nat)(e:Env): Prop where
 wf:e.wf s.cells.length
 ok:EOk R N e
structure Nx(R:Rn)(f:Nat)(s:S)(N:Nat)(r:V×S)(M:Nat): Prop where
 cn:Cn R f r.2 M
 cl:s.cells.length<=r.2.cells.length
 nm:N<=M
 vw:r.1.wf r.2.cells.length
 vo:VOk R M r.1
theorem Cn.next{R:Rn}{f:Nat}{s:S}{N:Nat}(h:Cn R f s N){k:Nat}{e:Env}(hk:ExAt R k)(he:Ce R s N e): Nx R f s N (exp shwW R.pg f s k e) (N+((exp shwW R.pg f s k e).2.steps-s.steps)):=by
 have h1:=zVN R f s k e N hk he.ok h.cells h.out
 have h2:=zYq (shw:=shwW) R.pg f s k e h.wf he.wf
 have h3:(exp shwW R.pg f s k e).2.steps<=R.fuel:=zYs (shw:=shwW) R.pg f s k e h.le
 have h4:=h1.le
 have h5:=h.nle
 have h6:=h.fu
 exact⟨⟨h2.st,h1.cells,h1.out,by omega,h3,by omega⟩,h2.le,qBD _ _,h2.val,h1.val⟩
theorem Ce.up{R:Rn}{s t:S}{N M:Nat}{e:Env}(h:Ce R s N e)(hl:s.cells.length<=t.cells.length)(hM:N<=M): Ce R t M e:=⟨Env.wf_mono hl _ h.wf,EOk.mono hM _ h.ok⟩
theorem Rn.To.pay{R:Rn}{f:FuncId}{avs:List SV}{s s':S}{bs:List Nat}{v:V}(h:R.To f avs s bs s' (fun y=>encV y v)): R.To f avs s bs s' (fun y=>.ifc (tyV v) (payV y v)):=by rw[zIr]at h;exact h
abbrev ExTo(R:Rn)(f:Nat)(s:S)(k:Nat)(e:Env)(bs:List Nat): Prop:=R.To 23 [.ptr 0 0,.d (i64 (k:Int)),.d (encE bs e)] s bs (exp shwW R.pg f s k e).2 (fun y=>encV y (exp shwW R.pg f s k e).1)
theorem zYr{R:Rn}(hR:R.Ok): ∀(f:Nat) (s:S) (k:Nat) (e:Env) (bs:List Nat) (N:Nat),Cn R f s N->ExAt R k->Ce R s N e->bs.length=s.cells.length->ExTo R f s k e bs
 |0,s,k,e,bs,N,hC,_,_,_=>by have:=hC.le;have:=hC.fu;omega
 |f+1,s,k,e,bs,N,hC,⟨.mk x ks,hA,hw⟩,hE,hbs=>by
  have hs:=exSh hA hw
  have ih:=zYr hR f
  have hst:=hC.le
  have hfu:=hR.fuel
  have hL:R.L.length<=1000000:=by have:=hR.len;omega
  show R.To _ [.ptr 0 0,.d (i64 (k:Int)),.d (encE bs e)] s bs _ _
  unfold exp
  rw[R.node_at hA.here]
  by_cases h0:s.fin=0
  rotate_left
  ·rw[if_pos h0];exact zVP R s bs hbs k _ h0
  rw[if_neg (by omega:¬s.fin≠0)]
  by_cases hf:s.steps=R.pg.fuel
  ·rw[if_pos hf]
   have hf':(s.steps:Int)=(R.fuel:Int):=by rw[hf];rfl
   exact zXl R s bs hbs k _ h0 hf'
  rw[if_neg hf]
  have hfn:(s.steps:Int)≠(R.fuel:Int):=fun h=>hf (by show _=R.fuel;omega)
  have hs1:s.steps<R.fuel:=by have:s.steps≠R.fuel:=fun h=>hf h;omega
  have hsb:s.steps<=1000000:=by omega
  have hC1:Cn R f { s with steps:=s.steps+1 } N:=⟨hC.wf,hC.cells,hC.out,by have:=hC.nle;show N<=s.steps+1;omega,hs1,by have:=hC.fu;show R.fuel<f+(s.steps+1);omega⟩
  have hE1:Ce R { s with steps:=s.steps+1 } N e:=⟨hE.wf,hE.ok⟩
  have hok:=zIs bs e
  have hfl:=zHP bs e
  dsimp only
  by_cases k1:x.kind=1
  ·rw[if_pos k1];exact zaV R s bs hbs _ hL hA h0 hfn hsb k1
  rw[if_neg k1]
  by_cases k2:x.kind=2
  ·rw[if_pos k2];exact zXk R s bs hbs _ hL hA h0 hfn hsb k2
  rw[if_neg k2]
  by_cases k3:x.kind=3
  ·rw[if_pos k3];exact zaS R s bs hbs _ hL hA h0 hfn hsb k3 e rfl
  rw[if_neg k3]
  by_cases k4:x.kind=4
  ·rw[if_pos k4]
   obtain⟨i,j,d,c,c1,c2,c3⟩:=hR.con x (qAC hA.here) k4
   have hn:R.pg.need x.text=c.args.length:=by
    show (zHs R.T (fR (zEA R.T x.text)).1.toNat (fR (zEA R.T x.text)).2.toNat).args.length=_
    rw[c1]
    show (zHs R.T (i:Int).toNat (j:Int).toNat).args.length=_
    rw[qAT,qAT,zG7 c2 c3]
   rw[hn]
   exact zaY R s bs hbs _ hL hA h0 hfn hsb k4 hR.dts c1 c2 c3
  rw[if_neg k4]
  by_cases k5:x.kind=5
  ·have hl:=hs.c1 (.inl k5)
   rw[if_pos k5,R.kid_at hA oM]
   exact zaW R s bs hbs _ hL hA h0 hfn hsb k5 oM e rfl
  rw[if_neg k5]
  have sub:∀{t:S} {M:Nat} {y:List Nat} {k':Nat} {e':Env},Cn R f t M->ExAt R k'->Ce R t M e'->y.length=t.cells.length->R.To 23 [.ptr 0 0,.d (i64 (k':Int)),.d (encE y e')] t y (exp shwW R.pg f t k' e').2 (fun z=>encV z (exp shwW R.pg f t k' e').1):=fun {t M y k' e'} h1 h2 h3 h4=>ih t k' e' y M h1 h2 h3 h4
  have pre:∀{t:S} {y:List Nat},Eok bs t y->encE y e=encE bs e:=fun {t y} hy=>zNH hy.1 e (by rw[hbs];exact hE.wf)
  have first:0<ks.length->(x.kind≠10\/0%2=0)->ExAt R (kidAt k ks 0):=fun h1 h2=>zCc hA hw h1 h2
  by_cases k6:x.kind=6
  ·have hl:=hs.c2 (.inl k6)
   rw[if_pos k6,R.kid_at hA (j:=0) oM,R.kid_at hA (j:=1) oM]
   have p0:=first oM (.inr rfl)
   have p1:=zCc hA hw (j:=1) oM (.inl oM)
   have t1:=sub (y:=bs) hC1 p0 hE1 hbs
   have n1:=hC1.next p0 hE1
   generalize exp shwW R.pg f { s with steps:=s.steps+1 } (kidAt k ks 0) e=r at *
   generalize N+(r.2.steps-(s.steps+1))=M1 at *
   have e2:=hE.up n1.cl n1.nm
   have t2:=fun (y:List Nat) (hy:Eok bs r.2 y)=>sub (y:=y) n1.cn p1 e2 hy.2
   have n2:=n1.cn.next p1 e2
   generalize exp shwW R.pg f r.2 (kidAt k ks 1) e=q at *
   generalize M1+(q.2.steps-r.2.steps)=M2 at *
   have hM2:M2<=100000:=by have:=n2.cn.nle;have:=n2.cn.le;omega
   refine zaZ R s bs hbs _ hL hA h0 hfn hsb k6 oM t1.pay (s3:=q.2) (t2:=tyV q.1) (d2:=fun z=>payV z q.1) (fun y hy=>?_) (fun y z hy hz=>?_)
   ·have:=(t2 y hy).pay
    rwa [pre hy]at this
   ·have hvw:r.1.wf y.length:=by rw[hy.2];exact n1.vw
    have:=zau (R:=R) (s:=q.2) (bs:=z) hz.2 n2.cn.wf n2.cn.out hM2 (ex:=exp shwW R.pg f) (f:=r.1) (a:=q.1) (VOk.mono n2.nm _ n1.vo) n2.vo (V.wf_mono n2.cl _ n1.vw) n2.vw (fun _ k' e' h1 h2 h3=>sub n2.cn h1 ⟨h3,h2⟩ hz.2)
    rw[zJ8 hz.1 r.1 hvw,zHl y r.1,zHl z q.1]at this
    exact this
  rw[if_neg k6]
  by_cases k7:x.kind=7
  ·have hl:=hs.c2 (.inr (.inl k7))
   rw[if_pos k7,R.kid_at hA (j:=0) oM,R.kid_at hA (j:=1) oM]
   have p0:=first oM (.inr rfl)
   have p1:=zCc hA hw (j:=1) oM (.inl oM)
   have t1:=sub (y:=bs) hC1 p0 hE1 hbs
   have n1:=hC1.next p0 hE1
   generalize exp shwW R.pg f { s with steps:=s.steps+1 } (kidAt k ks 0) e=r at *
   generalize N+(r.2.steps-(s.steps+1))=M1 at *
   have e2:=hE.up n1.cl n1.nm
   refine zaU R s bs hbs _ hL hA h0 hfn hsb k7 oM hok hfl t1.pay (fun y hy=>?_)
   have:=sub (y:=y) (e':=.cons x.text r.1 e) n1.cn p1 ⟨⟨n1.vw,e2.wf⟩,⟨n1.vo,e2.ok⟩⟩ hy.2
   rw[show encE y (.cons x.text r.1 e)=.ref [str x.text,encV y r.1,encE y e]from rfl,pre hy,zHl y r.1]at this
   exact this
  rw[if_neg k7]
  by_cases k8:x.kind=8
  ·have hl:=hs.c2 (.inr (.inr (.inl k8)))
   rw[if_pos k8,R.kid_at hA (j:=0) oM,R.kid_at hA (j:=1) oM]
   obtain⟨x2,hx2,hr2⟩:=zM6 hA hw k8
   have p1:=zCc hA hw (j:=1) oM (.inl oM)
   by_cases hf2:s.steps+1=R.pg.fuel
   ·rw[if_pos hf2]
    exact zOk R s bs hbs _ hL hA h0 hfn hsb k8 (by have:s.steps+1=R.fuel:=hf2;omega)
   ·rw[if_neg hf2,R.node_at hx2]
    have hf3:s.steps+1≠R.fuel:=fun h=>hf2 h
    have hC2:Cn R f { s with steps:=s.steps+1+1 } N:=⟨hC.wf,hC.cells,hC.out,by have:=hC.nle;show N<=s.steps+1+1;omega,by show s.steps+1+1<=R.fuel;omega,by have:=hC.fu;show R.fuel<f+(s.steps+1+1);omega⟩
    have:=sub (y:=bs) (e':=.cons x.text (.fn x2.text (kidAt k ks 0+1) x.text e) e) hC2 p1 ⟨⟨hE.wf,hE.wf⟩,⟨⟨hr2,hE.ok⟩,hE.ok⟩⟩ hbs
    exact zaT R s bs hbs _ hL hA h0 hfn hsb k8 oM oM hok hfl hx2 this
  rw[if_neg k8]
  by_cases k9:x.kind=9
  ·have hl:=hs.c3 k9
   rw[if_pos k9,R.kid_at hA (j:=0) oM,R.kid_at hA (j:=1) oM,R.kid_at hA (j:=2) oM]
   have p0:=first oM (.inr rfl)
   have p1:=zCc hA hw (j:=1) oM (.inl oM)
   have p2:=zCc hA hw (j:=2) oM (.inl oM)
   have t1:=sub (y:=bs) hC1 p0 hE1 hbs
   have n1:=hC1.next p0 hE1
   generalize exp shwW R.pg f { s with steps:=s.steps+1 } (kidAt k ks 0) e=r at *
   generalize N+(r.2.steps-(s.steps+1))=M1 at *
   have e2:=hE.up n1.cl n1.nm
   obtain⟨v,t⟩:=r
   dsimp only at t1 n1 e2 ⊢
   have t1':=t1.pay
   by_cases hfin:t.fin=0
   rotate_left
   ·rw[if_pos hfin]
    rcases zGC v with⟨n,rfl⟩|hv
    ·exact zLY R s bs hbs _ hL hA h0 hfn hsb k9 oM t1' hfin
    ·exact zSk R s bs hbs _ hL hA h0 hfn hsb k9 oM t1' (zIN hv) hfin
   rw[if_neg (by omega:¬t.fin≠0)]
   rcases zGC v with⟨n,rfl⟩|hv
   ·dsimp only
    by_cases hn:n=0
    ·rw[if_pos hn]
     exact zVO R s bs hbs _ hL hA h0 hfn hsb k9 oM t1' hfin hn (fun y hy=>by have:=sub (y:=y) n1.cn p2 e2 hy.2;rwa [pre hy]at this)
    ·rw[if_neg hn]
     exact zSj R s bs hbs _ hL hA h0 hfn hsb k9 oM t1' hfin hn (fun y hy=>by have:=sub (y:=y) n1.cn p1 e2 hy.2;rwa [pre hy]at this)
   ·have:=zPz R s bs hbs _ hL hA h0 hfn hsb k9 oM t1' (zIN hv) hfin
    cases v <;> first|exact this|exact absurd rfl (hv _)
  rw[if_neg k9]
  by_cases k11:x.kind=11
  ·have hl:=hs.c1 (.inr k11)
   rw[if_pos k11,R.kid_at hA (j:=0) oM]
   have p0:=first oM (.inr rfl)
   have t1:=sub (y:=bs) hC1 p0 hE1 hbs
   have n1:=hC1.next p0 hE1
   generalize exp shwW R.pg f { s with steps:=s.steps+1 } (kidAt k ks 0) e=r at *
   obtain⟨v,t⟩:=r
   dsimp only at t1 n1 ⊢
   have t1':=t1.pay
   by_cases hfin:t.fin=0
   rotate_left
   ·rw[if_pos hfin]
    rcases zGC v with⟨n,rfl⟩|hv
    ·exact zJO R s bs hbs _ hL hA h0 hfn hsb k11 oM t1' hfin
    ·exact zM4 R s bs hbs _ hL hA h0 hfn hsb k11 oM t1' (zIN hv) hfin
   rw[if_neg (by omega:¬t.fin≠0)]
   rcases zGC v with⟨n,rfl⟩|hv
   ·exact zOl R s bs hbs _ hL hA h0 hfn hsb k11 oM t1' hfin
   ·have:=zLX R s bs hbs _ hL hA h0 hfn hsb k11 oM t1' (zIN hv) hfin
    cases v <;> first|exact this|exact absurd rfl (hv _)
  rw[if_neg k11]
  by_cases k12:x.kind=12
  ·have hl:=hs.c2 (.inr (.inr (.inr k12)))
   rw[if_pos k12,R.kid_at hA (j:=0) oM,R.kid_at hA (j:=1) oM]
   have p0:=first oM (.inr rfl)
   have p1:=zCc hA hw (j:=1) oM (.inl oM)
   have t1:=sub (y:=bs) hC1 p0 hE1 hbs
   have n1:=hC1.next p0 hE1
   generalize exp shwW R.pg f { s with steps:=s.steps+1 } (kidAt k ks 0) e=r at *
   generalize N+(r.2.steps-(s.steps+1))=M1 at *
   have e2:=hE.up n1.cl n1.nm
   by_cases hfin:r.2.fin=2
   ·rw[if_neg (by omega:¬r.2.fin≠2)]
    have hC3:Cn R f { r.2 with fin:=0 } M1:=⟨n1.cn.wf,n1.cn.cells,n1.cn.out,n1.cn.nle,n1.cn.le,n1.cn.fu⟩
    refine zPy R s bs hbs _ hL hA h0 hfn hsb k12 oM hok hfl t1.pay hfin (fun y hy=>?_)
    have:=sub (y:=y) (e':=.cons x.text (.num r.2.raised) e) hC3 p1 ⟨⟨trivial,e2.wf⟩,⟨trivial,e2.ok⟩⟩ hy.2
    rw[show encE y (.cons x.text (.num r.2.raised) e)=.ref [str x.text,encV y (.num r.2.raised),encE y e]from rfl,pre hy]at this
    exact this
   ·rw[if_pos hfin]
    have:=zSi R s bs hbs _ hL hA h0 hfn hsb k12 oM t1.pay hfin
    rw[zIr];exact this
  rw[if_neg k12]
  have k10:x.kind=10:=by have:=hs.kind;omega
  obtain⟨hl,hodd⟩:=hs.c10 k10
  have hkn:=hs.kn
  rw[R.kid_at hA (j:=0) oM]
  have p0:=first oM (.inr rfl)
  have t1:=sub (y:=bs) hC1 p0 hE1 hbs
  have n1:=hC1.next p0 hE1
  generalize exp shwW R.pg f { s with steps:=s.steps+1 } (kidAt k ks 0) e=r at *
  generalize N+(r.2.steps-(s.steps+1))=M1 at *
  have e2:=hE.up n1.cl n1.nm
  have hlb:ks.length<=1000000:=by
   have h3:=hA.len
   rw[Tr.sz]at h3
   have:=zKm ks
   omega
  by_cases hfin:r.2.fin=0
  rotate_left
  ·rw[if_pos hfin]
   have:=zM5 R s bs hbs _ hL hA h0 hfn hsb k1 k2 k3 k4 k5 k6 k7 k8 k9 k11 k12 oM hlb t1.pay hfin
   rw[zIr];exact this
  rw[if_neg (by omega:¬r.2.fin≠0)]
  refine zVM R s bs hbs _ hL hA h0 hfn hsb k1 k2 k3 k4 k5 k6 k7 k8 k9 k11 k12 oM hlb t1.pay hfin hodd (fun y i=>encE y (matP R.pg R.pg.deep (kidAt k ks i) r.1 e).1) (fun i=>(matP R.pg R.pg.deep (kidAt k ks i) r.1 e).2) (fun y i hy h1 h2=>?_) (fun y i hy h1 h2 h3 h4=>?_) (fun h3=>?_)
  ·have hk:=hA.kid (i:=i) (qAB h2)
   have:=zQ1 R r.2 y hL R.pg.deep r.1 e (by have:=hk.len;show _<=R.L.length+1;omega) hk
   rw[zLT,pre hy,zHl y r.1]at this
   exact this
  ·have hc:ks.length=2*((x.kids.toNat-1) / 2)+1:=by omega
   have e1:=zRn (P:=R.pg) (ex:=exp shwW R.pg f) (s:=r.2) (k:=k) (v:=r.1) (e:=e) (D:=R.pg.deep) (i:=i) h1 (by rw[R.kid_at hA oM];exact h4) ((x.kids.toNat-1) / 2) 1 rfl oM oM (fun j a b d=>by rw[R.kid_at hA oM];exact h3 j a d)
   rw[e1,R.kid_at hA oM,R.kid_at hA oM]
   have hwf:∀z,mat R.pg R.pg.deep (kidAt k ks i) r.1 e=some z->z.wf r.2.cells.length:=fun z hz=>zQ2 R.pg R.pg.deep _ _ _ _ n1.vw e2.wf hz
   have hme:=zH2 R.pg R.pg.deep (kidAt k ks i) r.1 e
   rw[if_pos h4]at hme
   exact sub (y:=y) n1.cn (zCc hA hw oM (.inr oM)) ⟨hwf _ hme,zJ0 _ _ _ _ _ n1.vo e2.ok⟩ hy.2
  ·have e1:=zO9 (P:=R.pg) (ex:=exp shwW R.pg f) (s:=r.2) (k:=k) (v:=r.1) (e:=e) (D:=R.pg.deep) ((x.kids.toNat-1) / 2) 1 rfl (fun j a b d=>by rw[R.kid_at hA oM];exact h3 j a oM)
   rw[e1]
   exact⟨rfl,rfl⟩
open _root_.Go.Proofs.Tryz
def nmd1(T:List Dt)(n:Nd): Bool :=
 if n.kind≠4/\n.kind≠24 then true else match zEA T n.text with
  |some (i,j)=>!decide (n.kind=24/\((zHs T i j).args.length:Int)≠n.kids)
  |none=>false
def zE7(T:List Dt)(t:Tr): Bool:=t.fl.all (nmd1 T) && !(zHq t).any fun s=>decide (¬pidx s<14)
def zG5(T:List Dt)(t:Tr): Int:=if chkT t false≠0 then chkT t false else if zFJ T≠0 then zFJ T else if zE7 T t=false then 140 else 0
theorem zM3{T:List Dt}{s:List UInt8}{i j:Nat}(h:zEA T s=some (i,j)): ∃d c,T[i]?=some d/\d.cons[j]?=some c:=by
 have key:∀(l:List Dt) (p:Nat->Nat->Bool) (b:Nat),zEG p b l=some (i,j)->b<=i/\∃d c,l[i-b]?=some d/\d.cons[j]?=some c:=by
  intro l
  induction l with
  |nil=>intro p b h;cases h
  |cons d l ih =>
   intro p b h
   unfold zEG at h
   split at h
   ·rename_i k hk
    injection h with h;injection h with h1 h2
    subst h1;subst h2
    refine⟨qAN _,d,d.cons[k]'?_,by rw[Nat.sub_self];rfl,qAB ?_⟩
    all_goals
     have hc:∀(n k0 k:Nat),zHr (p b) n k0=some k->k<k0+n:=by
      intro n
      induction n with
      |zero=>intro k0 k h;cases h
      |succ n ih =>
       intro k0 k h
       unfold zHr at h
       split at h
       ·injection h with h;omega
       ·have:=ih _ _ h;omega
     have:=hc _ _ _ hk
     omega
   ·obtain⟨h1,d',c,h2,h3⟩:=ih p (b+1) h
    exact⟨by omega,d',c,by rw[show i-b=(i-(b+1))+1 by omega,List.getElem?_cons_succ];exact h2,h3⟩
 obtain⟨_,d,c,h1,h2⟩:=key T _ 0 h
 exact⟨d,c,h1,h2⟩
attribute [local irreducible] zAQ Program.underlying Ylds zBJ alex zBk zBZ awp zAX FCall zBo zBR zBX zEg zBb zBD zBd zBj zBn zBu zEL zBP VCall
theorem zSq(s:List UInt8): zAX prog 77 [str s] (bl (decide (¬pidx s<14))):=by
 have hf:=zRN s
 refine zAc func77 rfl ntmps77 results77 rfl ?_
 intro wb St0
 repeat' first|apply en_n|apply zAE|apply zAA|apply zAD|apply w0|exact ycA zUx hf|refine aAlA ?_|refine ayA rfl ?_|apply ay (hd:=rfl)|(refine w0' ?_)|refine aStA ?_|apply zAN|apply zAO|refine res1 rfl ?_
 exact zCX (by by_cases h:pidx s<14 <;> simp[h])
theorem zVa{T:List Dt}(hT:DtL T)(t:Tr)(hw:t.wf)(hL:t.fl.length<=1000000)(hfr:(zHq t).length<=2000000): zAX prog 31 [dts T,zAu t.fl] (bl (zE7 T t)):=by
 have hF:=za3 t hw hL
 have hC:zAX prog 75 [strs (zHq t),.clo 77 []] (bl ((zHq t).any fun s=>decide (¬pidx s<14))):=zdT (fun u=>zJn zUw (zSq u)) (zHq t) hfr
 unfold zE7
 generalize (zHq t).any (fun s=>decide (¬pidx s<14))=q at *
 generalize zHq t=fr at *
 generalize t.fl=L at *
 have hTl:=hT.len
 refine zAc func31 rfl ntmps31 results31 rfl ?_
 intro wb St0
 repeat' first|apply en_n|apply zAE|apply zAA|apply zAD|apply w0|refine ayA rfl ?_|apply zAH
 refine zAt (α:=Nat) (fun i=>i<=L.length/\∀(j:Nat) v,j<i->L[j]?=some v->nmd1 T v=true) (fun i=>[(0,.d (dts T)),(1,.d (zAu L)),(10,.d (zAu L)),(11,.d (i64 (L.length:Int))),(12,.d (i64 (i:Int)))]) (fun _=>[]) (fun i=>L.length-i) 0 ⟨qAO _,fun j u h=>by omega⟩
  (zAV (Le_cons rfl (Le_cons rfl (Le_cons rfl (Le_d rfl rfl (Le_all rfl))))) zAW rfl rfl) ?_
 rintro i ⟨hi1,hi2⟩
 rcases qAF i L.length with hlt|hge
 ·obtain⟨v,hv⟩:∃v,L[i]?=some v:=⟨_,qAB hlt⟩
  have hvi:L[(i:Int).toNat]?=some v:=hv
  have hlt':(i:Int)<(L.length:Int):=by omega
  have hFd:=zQM v.text hT.len hT.cons
  have next:nmd1 T v=true->∀(j:Nat) u,j<i+1->L[j]?=some u->nmd1 T u=true:=fun hn j u hj hu=>by
   rcases qAF j i with h1|h1
   ·exact hi2 j u h1 hu
   ·rw[show j=i by omega,hv]at hu;injection hu with hu;subst hu;exact hn
  have bad:nmd1 T v=false->(L.all (nmd1 T) && !q)=false:=fun hn=>by
   have:L.all (nmd1 T)=false:=by
    refine Bool.eq_false_iff.2 fun h=>?_
    rw[qAI.1 h v (qAC hv)]at hn;cases hn
   rw[this];rfl
  by_cases h4:v.kind≠4/\v.kind≠24
  ·obtain⟨h4a,h4b⟩:=h4
   have hn:nmd1 T v=true:=by unfold nmd1;rw[if_pos ⟨h4a,h4b⟩]
   repeat' first|apply en_n|apply zAE|apply zAA|apply zAD|apply w0|refine aJA ?_|refine aAlA ?_|refine ayA rfl ?_|refine ayQ rfl ?_|apply ay (hd:=rfl)|refine zBN rfl rfl ?_|refine w1 rfl rfl ?_|(refine w0' ?_)|refine aStA ?_|refine zAJ rfl ?_|apply zAH|apply zAM|apply zAz|apply en_e|apply eb_e
   all_goals first|omega|skip
   exact⟨i+1,⟨by omega,next hn⟩,by omega,zAV (Le_all rfl) zAW rfl rfl⟩
  ·cases hfd:zEA T v.text with
   |none =>
    have hn:nmd1 T v=false:=by unfold nmd1;rw[if_neg h4,hfd]
    rw[hfd]at hFd
    replace hFd:zAX prog 48 [dts T,str v.text] (.tup [i64 0,i64 0,bl false]):=hFd
    have h5:v.kind=4\/v.kind=24:=by omega
    rcases h5 with h5|h5
    ·skip
     repeat' first|apply en_n|apply zAE|apply zAA|apply zAD|apply w0|exact zA9 rfl rfl|exact zBQ rfl rfl|refine kUd (hd:=rfl) rfl rfl ?_|refine k0ud (hd:=rfl) rfl rfl ?_|refine k1u (hd:=rfl) rfl rfl ?_|(refine zAP zIA hFd (CoLA rfl))|(apply aJ (hd:=rfl);(first|exact zAr rfl|exact Co_bb rfl rfl rfl|exact Co_nn rfl);exact rfl;(with_reducible exact zAe);assumption;omega;exact fun _=>rfl)|(apply zA4 (hd:=rfl) (hro:=rfl);(with_reducible exact zA2))|apply ay (hd:=rfl)|exact zAC rfl|exact zAB rfl|exact zAl rfl zAh rfl|exact zBY rfl|exact zAj rfl rfl|exact zAi rfl rfl|exact zAb rfl rfl|(apply zAI;exact rfl;(with_reducible first|exact fn_0|exact fn_1))|(apply zAG;exact rfl;(with_reducible first|exact zAm|exact zAf);exact rfl;exact rfl)|(refine w0' ?_)|(apply zAq;exact rfl;exact rfl;exact rfl;(with_reducible exact zAh);exact rfl;exact rfl;exact rfl;exact rfl)|refine zAJ rfl ?_|refine zAK rfl ?_|apply zAH|apply zAM|apply zAN|refine zAy (by kernel_rfl) (by kernel_rfl) ?_|apply en_r|apply eb_r|apply zAO|refine res1 rfl ?_
     all_goals first|omega|exact zCX (bad hn).symm|skip
    ·skip
     repeat' first|apply en_n|apply zAE|apply zAA|apply zAD|apply w0|exact zA9 rfl rfl|exact zCC rfl rfl|exact zBQ rfl rfl|refine kUd (hd:=rfl) rfl rfl ?_|refine k0ud (hd:=rfl) rfl rfl ?_|(refine zAP zIA hFd (CoLA rfl))|(apply aJ (hd:=rfl);(first|exact zAr rfl|exact Co_bb rfl rfl rfl|exact Co_nn rfl);exact rfl;(with_reducible exact zAe);assumption;omega;exact fun _=>rfl)|(apply zA4 (hd:=rfl) (hro:=rfl);(with_reducible exact zA2))|apply ay (hd:=rfl)|exact zAC rfl|exact zAB rfl|exact zAl rfl zAh rfl|exact zBY rfl|exact zAj rfl rfl|exact zAb rfl rfl|(apply zAI;exact rfl;(with_reducible first|exact fn_0|exact fn_1))|(apply zAG;exact rfl;(with_reducible first|exact zAm|exact zAf);exact rfl;exact rfl)|refine w1 rfl rfl ?_|(refine w0' ?_)|(apply zAq;exact rfl;exact rfl;exact rfl;(with_reducible exact zAh);exact rfl;exact rfl;exact rfl;exact rfl)|refine zAJ rfl ?_|refine zAK rfl ?_|apply zAH|apply zAM|apply zAN|refine zAy (by kernel_rfl) (by kernel_rfl) ?_|apply en_r|apply eb_r|apply zAO|refine res1 rfl ?_
     all_goals first|omega|exact zCX (bad hn).symm|skip
   |some r =>
    obtain⟨a,b⟩:=r
    obtain⟨d,c,hd,hc⟩:=zM3 hfd
    rw[hfd]at hFd
    replace hFd:zAX prog 48 [dts T,str v.text] (.tup [i64 (a:Int),i64 (b:Int),bl true]):=hFd
    have hd':T[(a:Int).toNat]?=some d:=hd
    have hc':d.cons[(b:Int).toNat]?=some c:=hc
    have hal:=(hT.args d (qAC hd) c (qAC hc)).1
    have hn:nmd1 T v = !decide (v.kind=24/\(c.args.length:Int)≠v.kids):=by unfold nmd1;rw[if_neg h4,hfd];show (!decide (_/\((zHs T a b).args.length:Int)≠_))=_;rw[zG7 hd hc]
    by_cases h5:v.kind=24
    ·by_cases h6:(c.args.length:Int)=v.kids
     ·rw[decide_eq_false (fun h=>h.2 h6)]at hn
      repeat' first|apply en_n|apply zAE|apply zAA|apply zAD|apply w0|exact zA9 rfl rfl|exact zBH rfl rfl|exact zCC rfl rfl|exact zBQ rfl rfl|(refine zAP zIA hFd (CoLA rfl))|(apply aJ (hd:=rfl);(first|exact zAr rfl|exact Co_bb rfl rfl rfl|exact Co_nn rfl);exact rfl;(with_reducible first|exact zCN|exact zDW|exact zAe);assumption;omega;exact fun _=>rfl)|(apply zA4 (hd:=rfl) (hro:=rfl);(with_reducible exact zA2))|apply ay (hd:=rfl)|exact zAC rfl|exact zAB rfl|(apply zAs;exact rfl;(with_reducible first|exact zBt|exact zCA))|(apply zAR;exact rfl;(with_reducible first|exact zCV|exact zCY))|exact zAl rfl zAh rfl|exact zAg rfl zCL|refine zBN rfl rfl ?_|exact zBY rfl|exact zAj rfl rfl|exact zAi rfl rfl|exact zAb rfl rfl|(apply zAI;exact rfl;(with_reducible first|exact fn_0|exact fn_1|exact fn_3))|(apply zAG;exact rfl;(with_reducible first|exact zAa|exact zAm|exact zAf);exact rfl;exact rfl)|refine w1 rfl rfl ?_|(refine w0' ?_)|(apply zAq;exact rfl;exact rfl;exact rfl;(with_reducible exact zAh);exact rfl;exact rfl;exact rfl;exact rfl)|refine zAJ rfl ?_|refine zAK rfl ?_|apply zAH|apply zAM|refine zAy (by kernel_rfl) (by kernel_rfl) ?_|apply eb_n
      all_goals first|omega|skip
      all_goals exact⟨i+1,⟨by omega,next hn⟩,by omega,zAV (Le_all rfl) zAW rfl rfl⟩
     ·rw[decide_eq_true ⟨h5,h6⟩]at hn
      repeat' first|apply en_n|apply zAE|apply zAA|apply zAD|apply w0|exact zA9 rfl rfl|exact zBH rfl rfl|exact zCC rfl rfl|exact zBQ rfl rfl|(refine zAP zIA hFd (CoLA rfl))|(apply aJ (hd:=rfl);(first|exact zAr rfl|exact Co_bb rfl rfl rfl|exact Co_nn rfl);exact rfl;(with_reducible first|exact zCN|exact zDW|exact zAe);assumption;omega;exact fun _=>rfl)|(apply zA4 (hd:=rfl) (hro:=rfl);(with_reducible exact zA2))|apply ay (hd:=rfl)|exact zAC rfl|exact zAB rfl|(apply zAs;exact rfl;(with_reducible first|exact zBt|exact zCA))|(apply zAR;exact rfl;(with_reducible first|exact zCV|exact zCY))|exact zAl rfl zAh rfl|exact zAg rfl zCL|exact zBY rfl|exact zAj rfl rfl|exact zAi rfl rfl|exact zAb rfl rfl|(apply zAI;exact rfl;(with_reducible first|exact fn_0|exact fn_1|exact fn_3))|(apply zAG;exact rfl;(with_reducible first|exact zAa|exact zAm|exact zAf);exact rfl;exact rfl)|refine w1 rfl rfl ?_|(refine w0' ?_)|(apply zAq;exact rfl;exact rfl;exact rfl;(with_reducible exact zAh);exact rfl;exact rfl;exact rfl;exact rfl)|refine zAJ rfl ?_|refine zAK rfl ?_|apply zAH|apply zAM|apply zAN|refine zAy (by kernel_rfl) (by kernel_rfl) ?_|apply en_r|apply eb_r|apply zAO|refine res1 rfl ?_
      all_goals first|omega|exact zCX (bad hn).symm|skip
    ·have h7:v.kind=4:=by omega
     rw[decide_eq_false (fun h=>h5 h.1)]at hn
     repeat' first|apply en_n|apply zAE|apply zAA|apply zAD|apply w0|exact zA9 rfl rfl|exact zBA rfl rfl|exact zBQ rfl rfl|refine k1ud (hd:=rfl) rfl rfl ?_|refine k1u (hd:=rfl) rfl rfl ?_|(refine zAP zIA hFd (CoLA rfl))|(apply aJ (hd:=rfl);(first|exact zAr rfl|exact Co_bb rfl rfl rfl|exact Co_nn rfl);exact rfl;(with_reducible exact zAe);assumption;omega;exact fun _=>rfl)|(apply zA4 (hd:=rfl) (hro:=rfl);(with_reducible exact zA2))|apply ay (hd:=rfl)|exact zAC rfl|exact zAB rfl|exact zAl rfl zAh rfl|refine zBN rfl rfl ?_|exact zBY rfl|exact zAi rfl rfl|exact zAb rfl rfl|(apply zAI;exact rfl;(with_reducible first|exact fn_0|exact fn_1))|(apply zAG;exact rfl;(with_reducible first|exact zAm|exact zAf);exact rfl;exact rfl)|refine w1 rfl rfl ?_|(refine w0' ?_)|(apply zAq;exact rfl;exact rfl;exact rfl;(with_reducible exact zAh);exact rfl;exact rfl;exact rfl;exact rfl)|refine zAJ rfl ?_|refine zAK rfl ?_|apply zAH|apply zAM|refine zAy (by kernel_rfl) (by kernel_rfl) ?_|apply eb_n
     all_goals first|omega|skip
     all_goals exact⟨i+1,⟨by omega,next hn⟩,by omega,zAV (Le_all rfl) zAW rfl rfl⟩
 ·have hge':¬(i:Int)<(L.length:Int):=by omega
  have hall:L.all (nmd1 T)=true:=qAI.2 fun v hv=>by
   obtain⟨j,hj⟩:=qBA.1 hv
   exact hi2 j v pAL hj
  rw[hall]
  repeat' first|apply en_n|apply zAE|apply zAA|apply zAD|apply w0|exact ycA zaJ hF|(refine zAP zbm hC (zAL rfl (zNV rfl zAF)))|refine ayA rfl ?_|refine ayQ rfl ?_|apply ay (hd:=rfl)|refine zAK rfl ?_|apply zAN|apply zAz|apply en_e|apply eb_e|apply zAO|refine res1 rfl ?_
  all_goals exact zCX sI
theorem zIu{T:List Dt}(hT:DtL T)(t:Tr)(hw:t.wf)(hL:t.fl.length<=1000000)(hfr:(zHq t).length<=2000000): zAX prog 12 [dts T,zAu t.fl] (i64 (zG5 T t)):=by
 have hS:=zN3 t hw hL
 have hD:=zVp hT
 have hN:=zVa hT t hw hL hfr
 unfold zG5
 generalize chkT t false=a at *
 generalize zFJ T=b at *
 generalize zE7 T t=c at *
 generalize t.fl=L at *
 refine zAc func12 rfl ntmps12 results12 rfl ?_
 intro wb St0
 repeat' first|apply en_n|apply zAE|apply zAA|apply zAD|apply w0|exact ycA zIi hS|exact ycA zXa hD|exact ycA zXW hN|refine ayA rfl ?_|apply ay (hd:=rfl)|exact zEp rfl rfl|(apply zA3;exact rfl;all_goals intro hb)|(apply zCd;exact rfl;all_goals intro hb)|apply zAM|apply zAN|apply en_r|apply zAO|refine res1 rfl ?_
 ·exact zCm (by rw[if_pos hb])
 ·rename_i h1
  exact zCm (by rw[if_neg h1,if_pos hb])
 ·rename_i h1 h2
  exact zCm (by rw[if_neg h1,if_neg h2,if_pos (by simpa using hb)])
 ·rename_i h1 h2
  exact zCm (by rw[if_neg h1,if_neg h2,if_neg (by simpa using hb)])
theorem zVe{T:List Dt}(L:List Nd)(hL:L.length<=1000000)(hw:zDA L=false): zAX prog 12 [dts T,zAu L] (i64 60):=by
 have hS:=zTx L hL hw
 refine zAc func12 rfl ntmps12 results12 rfl ?_
 intro wb St0
 repeat' first|apply en_n|apply zAE|apply zAA|apply zAD|apply w0|exact zCC rfl rfl|(refine zAP zIi hS (CoLA rfl))|apply ay (hd:=rfl)|exact zAC rfl|exact zAB rfl|refine zAJ rfl ?_|apply zAN|apply en_r|apply zAO|refine res1 rfl ?_
 all_goals rfl
end Go.Proofs.YtjcgiiedaccjpaaGreatDoor
namespace Go.Proofs.YtjcgiiedaccjpaaGreatDoor
open _root_.Go.Proofs.Tryz
open Go.Sx Go.Ev
def sumA: List (List Nd)->Nat
 |[]=>0
 |t::r=>t.length+sumA r
def sumC: List Ct->Nat
 |[]=>0
 |c::r=>sumA c.args+sumC r
def sumD: List Dt->Nat
 |[]=>0
 |d::r=>sumC d.cons+sumD r
def eokN(n:Nd): Bool:=decide (n.text.length<=60)
def eokA(t:List Nd): Bool:=decide (t.length<=60)&&(t.take 61).all eokN
def eokC(c:Ct): Bool:=decide (c.name.length<=60)&&decide (c.args.length<=10)&&c.args.all eokA
def eokD(d:Dt): Bool:=decide (d.name.length<=60)&&decide (d.cons.length<=70)&&d.cons.all eokC
def fewD(l:List Dt): Bool:=decide (l.length<=70)&&l.all eokD&&decide (sumD l<=300)
theorem zOt{α:Type}{l:List α}{p:α->Bool}{i:Nat}{x:α}(h:l[i]?=some x): (l.drop i).all p=(p x&&(l.drop (i+1)).all p):=by
 obtain⟨hi,rfl⟩:=qAA.1 h
 rw[qAW hi,qBn]
theorem zOm{α:Type}{l:List α}{n i:Nat}{x:α}(h:l[i]?=some x)(hi:i<n): (l.take n)[i]?=some x:=by rw[qAd,if_pos hi,h]
theorem zOq{α:Type}{l:List α}{i:Nat}{x:α}(h:l[i]?=some x): l.drop i=x::l.drop (i+1):=by
 obtain⟨hi,rfl⟩:=qAA.1 h
 exact qAW hi
attribute [local irreducible] zAQ Program.underlying Ylds zBJ alex zBk zBZ awp zAX FCall zBo zBR zBX zEg zBb zBD zBd zBj zBn zBu zEL zBP VCall
theorem zaQ(l:List Dt): zAX prog 22 [dts l] (bl (fewD l)):=by
 refine zAc func22 rfl ntmps22 results22 rfl ?_
 intro wb St0
 by_cases h70:l.length<=70
 case neg =>
  have h1:(l.length:Int)>70:=by omega
  rw[fewD,decide_eq_false h70]
  skip
  repeat' first|apply en_n|apply zAE|apply zAA|apply zAD|apply w0|refine ayA rfl ?_|refine ayQ rfl ?_|refine zAJ rfl ?_|apply zAN|apply en_r|apply zAO|refine res1 rfl ?_
  all_goals first|omega|rfl
 have h1:¬(l.length:Int)>70:=by omega
 have hF:fewD l=((l.drop 0).all eokD&&decide (0+sumD (l.drop 0)<=300)):=by rw[fewD,decide_eq_true h70,qA5,qAp,qAS]
 generalize fewD l=F at *
 repeat' first|apply en_n|apply zAE|apply zAA|apply zAD|apply w0|refine ayA rfl ?_|refine ayQ rfl ?_|refine zAK rfl ?_|apply zAH|apply zAM
 refine zAt (α:=Nat×Nat) (fun x=>x.1<=l.length/\x.2<=300/\F=((l.drop x.1).all eokD&&decide (x.2+sumD (l.drop x.1)<=300))) (fun x=>[(0,.d (dts l)),(3,.d (i64 (x.2:Int))),(4,.d (i64 (x.1:Int)))]) (fun _=>[]) (fun x=>l.length-x.1) (0,0) ⟨qAO _,qAO _,hF⟩
  (zAV (Le_all rfl) zAW rfl rfl) ?_
 rintro⟨i,s⟩ ⟨hi1,hs,hi2⟩
 dsimp only at hi1 hs hi2 ⊢
 clear hF
 rcases qAF i l.length with hlt|hge
 case inr =>
  have hlt':¬(i:Int)<(l.length:Int):=by omega
  rw[qAa hge,List.all_nil,qA5,decide_eq_true (show s+sumD []<=300 from hs)]at hi2
  subst hi2
  skip
  repeat' first|apply en_n|apply zAE|apply zAA|apply zAD|apply w0|refine ayA rfl ?_|refine ayQ rfl ?_|refine zAK rfl ?_|apply zAN|apply zAz|apply en_e|apply eb_e|apply zAO|refine res1 rfl ?_
  all_goals first|omega|rfl
 obtain⟨d,hd⟩:∃d,l[i]?=some d:=⟨_,qAB hlt⟩
 have hd0:l[((i:Nat):Int).toNat]?=some d:=by rw[qAT];exact hd
 have hlt':(i:Int)<(l.length:Int):=by omega
 rw[zOq hd,qBn,sumD]at hi2
 have no:eokD d=false->F=false:=fun h=>by rw[hi2,h];rfl
 by_cases c1:d.cons.length<=70
 case neg =>
  have d1:(d.cons.length:Int)>70:=by omega
  have e:=no (by rw[eokD,decide_eq_false c1,Bool.and_false];rfl)
  clear no hi2
  subst e
  skip
  repeat' first|apply en_n|apply zAE|apply zAA|apply zAD|apply w0|refine k0u (hd:=rfl) rfl rfl ?_|refine aJA ?_|refine ayA rfl ?_|refine ayQ rfl ?_|refine zAJ rfl ?_|apply zAH|apply zAM|apply zAN|apply en_r|apply eb_r|apply zAO|refine res1 rfl ?_
  all_goals first|omega|rfl
 have d1:¬(d.cons.length:Int)>70:=by omega
 by_cases c2:d.name.length<=60
 case neg =>
  have d2:(d.name.length:Int)>60:=by omega
  have e:=no (by rw[eokD,decide_eq_false c2];rfl)
  clear no hi2
  subst e
  skip
  repeat' first|apply en_n|apply zAE|apply zAA|apply zAD|apply w0|(apply zDK;exact rfl;with_reducible exact ustr)|refine aJA ?_|refine ayA rfl ?_|refine ayQ rfl ?_|apply ay (hd:=rfl)|refine w1 rfl rfl ?_|refine zAJ rfl ?_|apply zAH|apply zAM|apply zAN|apply en_r|apply eb_r|apply zAO|refine res1 rfl ?_
  all_goals first|omega|rfl
 have d2:¬(d.name.length:Int)>60:=by omega
 have eg:eokD d=d.cons.all eokC:=by rw[eokD,decide_eq_true c1,decide_eq_true c2];rfl
 rw[eg]at hi2 no
 have hj0:F=((d.cons.drop 0).all eokC&&(l.drop (i+1)).all eokD&&decide (s+(sumC (d.cons.drop 0)+sumD (l.drop (i+1)))<=300)):=hi2
 clear hi2 eg no
 generalize hRb:(l.drop (i+1)).all eokD=rb at *
 generalize hRs:sumD (l.drop (i+1))=rs at *
 skip
 repeat' first|apply en_n|apply zAE|apply zAA|apply zAD|apply w0|(apply zDK;exact rfl;with_reducible exact ustr)|refine aJA ?_|refine ayA rfl ?_|refine ayQ rfl ?_|apply ay (hd:=rfl)|refine w1 rfl rfl ?_|refine zAJ rfl ?_|refine zAK rfl ?_|apply zAH|apply zAM
 all_goals first|omega|skip
 refine zAt (α:=Nat×Nat) (fun x=>x.1<=d.cons.length/\x.2<=300/\F=((d.cons.drop x.1).all eokC&&rb&&decide (x.2+(sumC (d.cons.drop x.1)+rs)<=300))) (fun x=>[(0,.d (dts l)),(3,.d (i64 (x.2:Int))),(4,.d (i64 (i:Int))),(5,.d (i64 (x.1:Int)))]) (fun _=>[]) (fun x=>d.cons.length-x.1) (0,s) ⟨qAO _,hs,hj0⟩
  (zAV (Le_all rfl) zAW rfl rfl) ?_
 rintro⟨j,s1⟩ ⟨hj1,hs1,hj2⟩
 dsimp only at hj1 hs1 hj2 ⊢
 clear hj0 hs
 rcases qAF j d.cons.length with hjl|hjge
 case inr =>
  have hjl':¬(j:Int)<(d.cons.length:Int):=by omega
  rw[qAa hjge,List.all_nil,qA5,sumC,qAS]at hj2
  clear d1 d2 c1 c2
  skip
  repeat' first|apply en_n|apply zAE|apply zAA|apply zAD|apply w0|refine aJA ?_|refine ayA rfl ?_|refine ayQ rfl ?_|apply ay (hd:=rfl)|refine zBN rfl rfl ?_|refine zAK rfl ?_|apply zAz|apply en_e|apply eb_n|apply eb_e
  all_goals first|omega|skip
  subst hRb
  subst hRs
  exact⟨(i+1,s1),⟨by show i+1<=_;omega,hs1,hj2⟩,by show l.length-(i+1)<l.length-i;omega,zAV (Le_all rfl) zAW rfl rfl⟩
 obtain⟨c,hc⟩:∃c,d.cons[j]?=some c:=⟨_,qAB hjl⟩
 have hc0:d.cons[((j:Nat):Int).toNat]?=some c:=by rw[qAT];exact hc
 have hjl':(j:Int)<(d.cons.length:Int):=by omega
 rw[zOq hc,qBn,sumC]at hj2
 have no:eokC c=false->F=false:=fun h=>by rw[hj2,h];rfl
 by_cases c3:c.name.length<=60
 case neg =>
  have d3:(c.name.length:Int)>60:=by omega
  have e:=no (by rw[eokC,decide_eq_false c3];rfl)
  clear no hj2 hRb hRs
  subst e
  skip
  repeat' first|apply en_n|apply zAE|apply zAA|apply zAD|apply w0|refine k0u (hd:=rfl) rfl rfl ?_|(apply zDK;exact rfl;with_reducible exact ustr)|refine aJA ?_|refine aAlA ?_|refine ayA rfl ?_|refine ayQ rfl ?_|apply ay (hd:=rfl)|(refine w0' ?_)|refine aStA ?_|refine zAJ rfl ?_|apply zAH|apply zAM|apply zAN|apply en_r|apply eb_r|apply zAO|refine res1 rfl ?_
  all_goals first|omega|rfl
 have d3:¬(c.name.length:Int)>60:=by omega
 by_cases c4:c.args.length<=10
 case neg =>
  have d4:(c.args.length:Int)>10:=by omega
  have e:=no (by rw[eokC,decide_eq_false c4,Bool.and_false];rfl)
  clear no hj2 hRb hRs
  subst e
  skip
  repeat' first|apply en_n|apply zAE|apply zAA|apply zAD|apply w0|(apply zDK;exact rfl;with_reducible exact ustr)|refine aJA ?_|refine aAlA ?_|refine ayA rfl ?_|refine ayQ rfl ?_|apply ay (hd:=rfl)|refine w1 rfl rfl ?_|(refine w0' ?_)|refine aStA ?_|refine zAJ rfl ?_|apply zAH|apply zAM|apply zAN|apply en_r|apply eb_r|apply zAO|refine res1 rfl ?_
  all_goals first|omega|rfl
 have d4:¬(c.args.length:Int)>10:=by omega
 have eg:eokC c=c.args.all eokA:=by rw[eokC,decide_eq_true c3,decide_eq_true c4];rfl
 rw[eg]at hj2 no
 have hk0:F=((c.args.drop 0).all eokA&&((d.cons.drop (j+1)).all eokC&&rb)&&decide (s1+(sumA (c.args.drop 0)+(sumC (d.cons.drop (j+1))+rs))<=300)):=by rw[hj2,qAp,Nat.add_assoc];simp only[Bool.and_assoc]
 clear hj2 eg no
 generalize hRc:(d.cons.drop (j+1)).all eokC=rc at *
 generalize hRt:sumC (d.cons.drop (j+1))=rt at *
 skip
 repeat' first|apply en_n|apply zAE|apply zAA|apply zAD|apply w0|(apply zDK;exact rfl;with_reducible exact ustr)|refine aJA ?_|refine aAlA ?_|refine ayA rfl ?_|refine ayQ rfl ?_|apply ay (hd:=rfl)|refine w1 rfl rfl ?_|(refine w0' ?_)|refine aStA ?_|refine zAJ rfl ?_|refine zAK rfl ?_|apply zAH|apply zAM
 all_goals first|omega|skip
 refine zAt (α:=Nat×Nat) (fun x=>x.1<=c.args.length/\x.2<=300/\F=((c.args.drop x.1).all eokA&&(rc&&rb)&&decide (x.2+(sumA (c.args.drop x.1)+(rt+rs))<=300))) (fun x=>[(0,.d (dts l)),(3,.d (i64 (x.2:Int))),(4,.d (i64 (i:Int))),(5,.d (i64 (j:Int))),(6,.ptr 0 0),(7,.d (i64 (x.1:Int)))]) (fun _=>[.box [.d (str c.name),.d (zC0 c.args)]]) (fun x=>c.args.length-x.1) (0,s1) ⟨qAO _,hs1,hk0⟩
  (zAV (Le_all rfl) (zAT rfl rfl zAW) rfl rfl) ?_
 rintro⟨k,s2⟩ ⟨hk1,hs2,hk2⟩
 dsimp only at hk1 hs2 hk2 ⊢
 clear hk0 hs1
 rcases qAF k c.args.length with hkl|hkge
 case inr =>
  have hkl':¬(k:Int)<(c.args.length:Int):=by omega
  rw[qAa hkge,List.all_nil,qA5,sumA,qAS]at hk2
  clear d1 d2 c2 hRb hRs
  skip
  repeat' first|apply en_n|apply zAE|apply zAA|apply zAD|apply w0|refine ayA rfl ?_|refine ayQ rfl ?_|apply ay (hd:=rfl)|refine zBN rfl rfl ?_|refine zAK rfl ?_|apply zAz|apply en_e|apply eb_n|apply eb_e
  all_goals first|omega|skip
  subst hRc
  subst hRt
  exact⟨(j+1,s2),⟨by show j+1<=_;omega,hs2,hk2⟩,by show d.cons.length-(j+1)<d.cons.length-j;omega,zAV (Le_all rfl) zAW rfl rfl⟩
 obtain⟨t,ht⟩:∃t,c.args[k]?=some t:=⟨_,qAB hkl⟩
 have ht0:c.args[((k:Nat):Int).toNat]?=some t:=by rw[qAT];exact ht
 have hkl':(k:Int)<(c.args.length:Int):=by omega
 rw[zOq ht,qBn,sumA]at hk2
 clear hRb hRs hRc hRt c1 c2 c3 d1 d2 d3 d4
 have hl61:(t.take 61).length=min 61 t.length:=qAU
 by_cases c6:t.length<=60
 case neg =>
  have d6:(t.length:Int)>60:=by omega
  have e:F=false:=by rw[hk2,show eokA t=false by rw[eokA,decide_eq_false c6];rfl];rfl
  clear hk2
  subst e
  skip
  repeat' first|(refine ay (hd:=rfl) (zRu rfl rfl) ?_)|apply en_n|apply zAE|apply zAA|apply zAD|apply w0|refine aJA ?_|refine ayA rfl ?_|refine ayQ rfl ?_|apply ay (hd:=rfl)|refine zAJ rfl ?_|apply zAH|apply zAM
  all_goals first|omega|skip
  refine zAt (α:=Nat) (fun m=>m<=(t.take 61).length) (fun m=>[(0,.d (dts l)),(3,.d (i64 (IntKind.i64.wrap ((s2:Int)+(t.length:Int))))),(4,.d (i64 (i:Int))),(5,.d (i64 (j:Int))),(6,.ptr 0 0),(7,.d (i64 (k:Int))),(8,.d (i64 (m:Int)))]) (fun _=>[.box [.d (str c.name),.d (zC0 c.args)]]) (fun m=>(t.take 61).length-m) 0 (qAO _)
   (zAV (Le_all rfl) (zAT rfl rfl zAW) rfl rfl) ?_
  intro m hm1
  generalize IntKind.i64.wrap ((s2:Int)+(t.length:Int))=z
  rcases qAF m (t.take 61).length with hml|hmge
  ·obtain⟨n,hn⟩:∃n,t[m]?=some n:=⟨_,qAB oM⟩
   have hn0:t[((m:Nat):Int).toNat]?=some n:=by rw[qAT];exact hn
   have hml1:(m:Int)<(t.length:Int):=by omega
   have hml2:(m:Int)<61:=by omega
   by_cases c5:n.text.length<=60
   ·have d5:¬(n.text.length:Int)>60:=by omega
    skip
    repeat' first|apply en_n|apply zAE|apply zAA|apply zAD|apply w0|(apply zDK;exact rfl;with_reducible exact ustr)|refine aJA ?_|refine ayA rfl ?_|refine ayQ rfl ?_|apply ay (hd:=rfl)|refine zBN rfl rfl ?_|refine w1 rfl rfl ?_|refine zAJ rfl ?_|refine zAK rfl ?_|apply zAH|apply zAM|apply eb_n
    all_goals first|omega|skip
    exact⟨m+1,by omega,by omega,zAV (Le_all rfl) (zAT rfl rfl zAW) rfl rfl⟩
   ·have d5:(n.text.length:Int)>60:=by omega
    skip
    repeat' first|apply en_n|apply zAE|apply zAA|apply zAD|apply w0|exact zA9 rfl rfl|exact zDk rfl rfl|(apply zDK;exact rfl;with_reducible exact ustr)|(apply aJ (hd:=rfl);(first|exact zAr rfl|exact Co_bb rfl rfl rfl|exact Co_nn rfl);exact rfl;(with_reducible first|exact zAe|exact zB7);assumption;omega;exact fun _=>rfl)|apply ay (hd:=rfl)|exact zAC rfl|exact zAB rfl|exact zAs rfl fn_1|(apply zAR;exact rfl;(with_reducible first|exact zAx|exact zAf))|exact zAg rfl zA5|exact zAj rfl rfl|exact zAI rfl zCA|exact zAG rfl zCY rfl rfl|refine w1 rfl rfl ?_|refine zAJ rfl ?_|apply zAH|apply zAM|apply zAN|apply en_r|apply eb_r|apply zAO|refine res1 rfl ?_
    all_goals first|omega|rfl
  ·have hm61:¬(m:Int)<61:=by omega
   skip
   repeat' first|apply en_n|apply zAE|apply zAA|apply zAD|apply w0|refine k1u (hd:=rfl) rfl rfl ?_|refine k0u (hd:=rfl) rfl rfl ?_|exact zBr rfl rfl|exact zDk rfl rfl|(apply aJ (hd:=rfl);(first|exact zAr rfl|exact Co_bb rfl rfl rfl|exact Co_nn rfl);exact rfl;(with_reducible exact zB7);assumption;omega;exact fun _=>rfl)|apply ay (hd:=rfl)|exact zAC rfl|exact zAB rfl|exact zAR rfl zAx|exact zAg rfl zA5|exact zCt rfl rfl|exact zAj rfl rfl|exact zAi rfl rfl|exact zAI rfl zCA|exact zAG rfl zCY rfl rfl|refine w1 rfl rfl ?_|(apply gD;exact rfl;exact rfl;all_goals intro hb)|refine zAJ rfl ?_|refine zAK rfl ?_|apply zAN|apply zAz|apply en_r|apply en_e|apply eb_r|apply eb_e|apply zAO|refine res1 rfl ?_
   all_goals first|omega|rfl
 skip
 repeat' first|apply en_n|apply zAE|apply zAA|apply zAD|apply w0|refine aJA ?_|refine ayA rfl ?_|refine ayQ rfl ?_|apply ay (hd:=rfl)|refine zBN rfl rfl ?_|refine zAJ rfl ?_|apply zAH|apply zAM
 all_goals first|omega|skip
 refine zAt (α:=Nat) (fun m=>m<=(t.take 61).length/\(t.take 61).all eokN=((t.take 61).drop m).all eokN) (fun m=>[(0,.d (dts l)),(3,.d (i64 ((s2:Int)+(t.length:Int)))),(4,.d (i64 (i:Int))),(5,.d (i64 (j:Int))),(6,.ptr 0 0),(7,.d (i64 (k:Int))),(8,.d (i64 (m:Int)))]) (fun _=>[.box [.d (str c.name),.d (zC0 c.args)]]) (fun m=>(t.take 61).length-m) 0 ⟨qAO _,rfl⟩
  (zAV (Le_all rfl) (zAT rfl rfl zAW) rfl rfl) ?_
 rintro m ⟨hm1,hm2⟩
 rcases qAF m (t.take 61).length with hml|hmge
 ·obtain⟨n,hn⟩:∃n,t[m]?=some n:=⟨_,qAB oM⟩
  have hn0:t[((m:Nat):Int).toNat]?=some n:=by rw[qAT];exact hn
  have hml1:(m:Int)<(t.length:Int):=by omega
  have hml2:(m:Int)<61:=by omega
  rw[zOt (zOm hn oM)]at hm2
  by_cases c5:n.text.length<=60
  ·have d5:¬(n.text.length:Int)>60:=by omega
   rw[show eokN n=true from decide_eq_true c5,qA5]at hm2
   clear hk2
   skip
   repeat' first|apply en_n|apply zAE|apply zAA|apply zAD|apply w0|(apply zDK;exact rfl;with_reducible exact ustr)|refine aJA ?_|refine ayA rfl ?_|refine ayQ rfl ?_|apply ay (hd:=rfl)|refine zBN rfl rfl ?_|refine w1 rfl rfl ?_|refine zAJ rfl ?_|refine zAK rfl ?_|apply zAH|apply zAM|apply eb_n
   all_goals first|omega|skip
   exact⟨m+1,⟨by omega,hm2⟩,by omega,zAV (Le_all rfl) (zAT rfl rfl zAW) rfl rfl⟩
  ·have d5:(n.text.length:Int)>60:=by omega
   have e:F=false:=by rw[hk2,show eokA t=false by rw[eokA,hm2,show eokN n=false from decide_eq_false c5,qBU,Bool.and_false]];rfl
   clear hk2 hm2
   subst e
   skip
   repeat' first|apply en_n|apply zAE|apply zAA|apply zAD|apply w0|exact zA9 rfl rfl|exact zDk rfl rfl|(apply zDK;exact rfl;with_reducible exact ustr)|(apply aJ (hd:=rfl);(first|exact zAr rfl|exact Co_bb rfl rfl rfl|exact Co_nn rfl);exact rfl;(with_reducible first|exact zAe|exact zB7);assumption;omega;exact fun _=>rfl)|apply ay (hd:=rfl)|exact zAC rfl|exact zAB rfl|exact zAs rfl fn_1|(apply zAR;exact rfl;(with_reducible first|exact zAx|exact zAf))|exact zAg rfl zA5|exact zAj rfl rfl|exact zAI rfl zCA|exact zAG rfl zCY rfl rfl|refine w1 rfl rfl ?_|refine zAJ rfl ?_|apply zAH|apply zAM|apply zAN|apply en_r|apply eb_r|apply zAO|refine res1 rfl ?_
   all_goals first|omega|rfl
 rw[qAa hmge,List.all_nil]at hm2
 have d6:¬(t.length:Int)>60:=by omega
 have hml1:¬(m:Int)<(t.length:Int):=by omega
 rw[show eokA t=true by rw[eokA,hm2,decide_eq_true c6];rfl,qA5]at hk2
 by_cases c7:s2+t.length<=300
 case neg =>
  have d7:(s2:Int)+(t.length:Int)>300:=by omega
  have e:F=false:=by rw[hk2,decide_eq_false oM,Bool.and_false]
  clear hk2 hm2
  subst e
  skip
  repeat' first|apply en_n|apply zAE|apply zAA|apply zAD|apply w0|refine k1u (hd:=rfl) rfl rfl ?_|refine aJA ?_|refine ayA rfl ?_|refine ayQ rfl ?_|refine w1 rfl rfl ?_|refine zAJ rfl ?_|refine zAK rfl ?_|apply zAN|apply zAz|apply en_r|apply en_e|apply eb_r|apply eb_e|apply zAO|refine res1 rfl ?_
  all_goals first|omega|rfl
 have d7:¬(s2:Int)+(t.length:Int)>300:=by omega
 have hk3:F=((c.args.drop (k+1)).all eokA&&(rc&&rb)&&decide (s2+t.length+(sumA (c.args.drop (k+1))+(rt+rs))<=300)):=by rw[hk2];congr 2;exact propext oM
 clear hk2 hm2
 skip
 repeat' first|apply en_n|apply zAE|apply zAA|apply zAD|apply w0|refine k1u (hd:=rfl) rfl rfl ?_|refine aJA ?_|refine ayA rfl ?_|refine ayQ rfl ?_|apply ay (hd:=rfl)|refine zBN rfl rfl ?_|refine w1 rfl rfl ?_|refine zAK rfl ?_|apply zAM|apply zAz|apply en_e|apply eb_n|apply eb_e
 all_goals first|omega|skip
 exact⟨(k+1,s2+t.length),⟨by show k+1<=_;omega,c7,hk3⟩,by show c.args.length-(k+1)<c.args.length-k;omega,zAV (Le_all rfl) (zAT rfl rfl zAW) rfl rfl⟩
