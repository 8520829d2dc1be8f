/- Parts. -/
import Derived.Test.YtjcgiiedaccjpaaGreatDoorMAT
set_option maxHeartbeats 16000000
namespace Go.Proofs.YtjcgiiedaccjpaaGreatDoor
open _root_.Go.Proofs.Tryz
open Go.Sx Go.Ev
theorem zTE(v:V): (∃n,v=.num n)\/∀n,v≠.num n:=by cases v <;> first|exact .inl ⟨_,rfl⟩|exact .inr fun n h=>by cases h
theorem zLP: ∀ks:List Tr,ks.length<=szL ks
 |[]=>qAR _
 |t::r=>by
  have:=zLP r
  have:=zFs t
  rw[szL,qAJ];omega
attribute [local irreducible] zAK Program.underlying Ylds zA3 alex zBc zBL awp zAc zBd zBi zBD zBI zDI zBS zA5 zBT zBY zBe zBs zC7 zBN VCall
theorem zO2(R:Rn)(s:S)(bs:List Nat){k:Nat}{x:Nd}{ks:List Tr}(need:Nat)(args:List V)(e:Env)(hL:R.L.length<=1000000)(hA:At R.L k (.mk x ks))(k1:x.kind≠21)(k2:x.kind≠22)(k3:x.kind≠23)(h1:args.length=need)(h2:(need:Int)=x.kids)
  (mt:Nat->V->Env->Env×Bool) (ih:∀(i:Nat) v e,args[i]?=some v->zIB R s bs (kidAt k ks i) v e (mt (kidAt k ks i) v e)):zIB R s bs k (.con x.text need args) e (zG2 R.pg mt k 0 args e):=by
 have hx:=hA.here
 have hi:=(qAA.1 hx).1
 have hx':R.L[(k:Int).toNat]?=some x:=hx
 have hK:=zCE R.L (k:Int) (by omega)
 have hkn:=hA.kidn
 have hkl:=hA.kids_len
 have hkg:∀i,i<ks.length->(zBx R.L (k:Int))[i]?=some ((kidAt k ks i:Nat):Int):=fun i hi=>hA.kids_get hi
 have hkp:∀i,i<ks.length->R.pg.kid k i=kidAt k ks i:=fun i hi=>R.kid_at hA hi
 have hln:ks.length=args.length:=by omega
 have hkb:ks.length<=1000000:=by
  have h3:=hA.len
  rw[Tr.sz]at h3
  have:=zLP ks
  omega
 generalize hr:zG2 R.pg mt k 0 args e=r
 show zBI _ _ [.ptr 0 0,.d (i64 (k:Int)),.d (.ifc 108 (.ref [str x.text,.slice (zCJ bs args),i64 (need:Int)])),.d (encE bs e)] _ (.tup [encE bs r.1,bl r.2])
 have hal:=zCg bs args
 have hag:∀(i:Nat) v,args[i]?=some v->(zCJ bs args)[i]?=some (encV bs v):=fun i v h=>by rw[zDE,qAG,h];rfl
 generalize zCJ bs args=da at *
 have g2:(da.length:Int)=(need:Int):=by omega
 generalize zBx R.L (k:Int)=kf at *
 refine zCt func51 rfl ntmps51 results51 rfl ?_
 intro wb St0
 repeat' first|apply en_n|apply zAE|apply zAA|apply zAD|apply w0|refine k0ud (hd:=rfl) rfl rfl ?_|exact zBW rfl rfl|exact zBg rfl rfl|exact zAS rfl|exact zCh rfl|exact zGJ rfl rfl|(apply zDh;exact rfl;with_reducible exact zDA)|(refine zAU zCA hK (CoLA rfl))|(apply aJ (hd:=rfl);(first|exact zAq rfl|exact Co_bb rfl rfl rfl|exact Co_nn rfl);exact rfl;(with_reducible exact zAa);assumption;omega;exact fun _=>rfl)|(apply zBF (hd:=rfl) (hro:=rfl);(with_reducible exact zAx))|apply ay (hd:=rfl)|exact zAC rfl|exact zAB rfl|(apply zA1;exact rfl;(with_reducible first|exact zFN|exact zDS|exact zDy))|(apply zAR;exact rfl;(with_reducible first|exact zDo|exact zAd|exact zAr))|exact zAg rfl zAZ rfl|exact zAo rfl zDk|exact zD8 rfl zEK|exact zBX rfl|exact zAi rfl rfl|exact zAj rfl rfl|exact zAe rfl rfl|exact zAG rfl|(apply zAH;exact rfl;(with_reducible first|exact zAn|exact fn_0|exact fn_1|exact fn_3))|(apply zAJ;exact rfl;(with_reducible first|exact zAd|exact zAY|exact zAp|exact zAr);exact rfl;exact rfl)|refine w1 rfl rfl ?_|(apply gD;exact rfl;exact rfl;all_goals intro hb)|(refine w0' ?_)|(apply zAl;exact rfl;exact rfl;exact rfl;(with_reducible exact zAZ);exact rfl;exact rfl;exact rfl;exact rfl)|refine zAN rfl ?_|refine zAQ rfl ?_|apply zAI|apply zAO|apply zAM|refine zAu (by kernel_rfl) (by kernel_rfl) ?_|apply en_r|apply eb_n|apply zAL|(apply res2;exact rfl;exact rfl)
 all_goals first|omega|exact absurd rfl hb|skip
 refine zAv (α:=Nat×Env) (fun p=>p.1<=args.length/\zG2 R.pg mt k p.1 (args.drop p.1) p.2=r) (fun p=>[(0,.ptr 0 0),(3,.d (encE bs p.2)),(13,.d (.ref [str x.text,.slice da,i64 (need:Int)])),(96,.d (zBr kf)),(97,.d (i64 (ks.length:Int))),(98,.d (i64 (p.1:Int)))]) (fun _=>R.MB s) (fun p=>args.length-p.1) (0,e) ⟨qAR _,hr⟩
  (zAV (Le_cons rfl (Le_cons rfl (Le_cons rfl (Le_cons rfl (Le_d rfl (by rw[<-hkl]) (Le_all rfl)))))) (zAT rfl rfl (zAT rfl rfl zAW)) rfl rfl) ?_
 rintro⟨i,e'⟩ ⟨hi1,hi2⟩
 dsimp only at hi1 hi2 ⊢
 rcases qAI i args.length with hlt|hge
 ·obtain⟨v,hv⟩:∃v,args[i]?=some v:=⟨_,qAB hlt⟩
  have hm:=ih i v e' hv
  have hk':=hkg i (by omega)
  have hda:=hag i v hv
  have hk2:kf[(i:Int).toNat]?=some ((kidAt k ks i:Nat):Int):=hk'
  have hda2:da[(i:Int).toNat]?=some (encV bs v):=hda
  obtain⟨d1,e1⟩:=zCR bs v
  rw[qAZ hlt]at hi2
  have hvv:args[i]=v:=by rw[qAB hlt]at hv;injection hv
  rw[hvv,zG2,hkp i (by omega)]at hi2
  rw[show zIB R s bs (kidAt k ks i) v e' (mt (kidAt k ks i) v e')=zBI prog 51 [.ptr 0 0,.d (i64 ((kidAt k ks i:Nat):Int)),.d (encV bs v),.d (encE bs e')] (R.MB s) (.tup [encE bs (mt (kidAt k ks i) v e').1,bl (mt (kidAt k ks i) v e').2])from rfl]at hm
  generalize mt (kidAt k ks i) v e'=q at *
  obtain⟨q1,q2⟩:=q
  dsimp only at hi2 hm
  have hlt':(i:Int)<(ks.length:Int):=by omega
  rw[e1]at hm hda2
  clear ih hag hkg hkp
  skip
  repeat' first|apply en_n|apply zAE|apply zAA|apply zAD|apply w0|exact zBh rfl rfl|exact zCh rfl|(apply zBv;exact rfl;exact rfl;(with_reducible exact zBK);omega;exact hda2;exact rfl;exact(by decide))|(refine zCr [0,1] [] rfl rfl zJG (hm) rfl (SArgs_all rfl) rfl (by decide) rfl rfl rfl rfl)|(apply aJ (hd:=rfl);(first|exact zAq rfl|exact Co_bb rfl rfl rfl|exact Co_nn rfl);exact rfl;(with_reducible exact zBl);assumption;omega;exact fun _=>rfl)|apply ay (hd:=rfl)|exact zAC rfl|exact zAB rfl|exact zA1 rfl zDS|(apply zAR;exact rfl;(with_reducible first|exact zB0|exact zDo|exact zAd))|refine zBE rfl rfl ?_|exact zBX rfl|exact zAe rfl rfl|exact zAG rfl|refine zAN rfl ?_|(apply zBw;exact rfl;all_goals intro hb)|apply zAI|apply zAO|apply zAM|apply en_r|apply eb_n|apply eb_r|apply zAL|(apply res2;exact rfl;exact rfl)
  ·have hq:q2=false:=by simpa using hb
   subst hq;rw[if_neg (by decide)]at hi2;subst hi2;rfl
  ·have hq:q2=false:=by simpa using hb
   subst hq;rw[if_neg (by decide)]at hi2;subst hi2;rfl
  all_goals first|omega|skip
  have hq:q2=true:=by simpa using hb
  subst hq
  rw[if_pos rfl]at hi2
  exact⟨(i+1,q1),⟨hlt,hi2⟩,by show args.length-(i+1)<args.length-i;omega,zAV (Le_all rfl) (zAT rfl rfl (zAT rfl rfl zAW)) rfl rfl⟩
 ·have hx:¬(i:Int)<(ks.length:Int):=by omega
  rw[List.drop_eq_nil_of_le hge,zG2]at hi2
  subst hi2
  skip
  exact yM
theorem zMQ(R:Rn)(s:S)(bs:List Nat)(hL:R.L.length<=1000000): ∀(f:Nat) {k:Nat} {t:Tr} (v:V) (e:Env),t.sz<=f->At R.L k t->zIB R s bs k v e (matP R.pg f k v e)
 |0,k,t,_,_,hf,_=>by have:=zFs t;omega
 |f+1,k,.mk x ks,v,e,hf,hA=>by
  have hx:=hA.here
  unfold matP
  rw[R.node_at hx]
  dsimp only
  by_cases h1:x.kind=21
  ·rw[if_pos h1];exact zO3 R s bs v e hL hx h1
  rw[if_neg h1]
  by_cases h2:x.kind=22
  ·rw[if_pos h2];exact zO0 R s bs v e hL hx h2
  rw[if_neg h2]
  by_cases h3:x.kind=23
  ·rw[if_pos h3]
   rcases zTE v with⟨n,rfl⟩|hv
   ·exact zO1 R s bs n e hL hx h3
   ·cases v <;> first|exact zJ5 R s bs _ hv e hL hx h3|exact absurd rfl (hv _)
  rw[if_neg h3]
  have hkn:=hA.kidn
  rcases zVB v with⟨m,need,args,rfl⟩|hv
  ·dsimp only
   have hw:(x.kids.toNat:Int)=x.kids:=by omega
   by_cases h4:m=x.text/\args.length=need/\need=x.kids.toNat
   ·rw[if_pos h4]
    obtain⟨rfl,h5,h6⟩:=h4
    refine zO2 R s bs need args e hL hA h1 h2 h3 h5 (by omega) (matP R.pg f) fun i u e' hu=>?_
    have hil:i<ks.length:=by have:=(qAA.1 hu).1;omega
    have hk:=hA.kid (i:=i) (qAB hil)
    refine zMQ R s bs hL f u e' ?_ hk
    have h7:=zFV (List.getElem_mem hil)
    rw[Tr.sz]at hf;omega
   ·rw[if_neg h4]
    exact zJ7 R s bs m need args e hL hx h1 h2 h3 fun h=>h4 ⟨h.1,by omega,by omega⟩
  ·cases v <;> first|exact zJ6 R s bs _ hv e hL hx h1 h2 h3|cases hv
