/- Parts. -/
import Derived.Test.YtjcgiiedaccjpaaGreatDoorPAC
import Derived.Test.YtjcgiiedaccjpaaGreatDoorPAQ
set_option maxHeartbeats 16000000
namespace Go.Proofs.YtjcgiiedaccjpaaGreatDoor
open _root_.Go.Proofs.Tryz
open Go.Sx
attribute [local irreducible] zAQ Program.underlying Ylds zBJ alex zBk zBZ awp zAX FCall zBo zBR zBX zBb zBD zBd zBj zBn zBu zBP VCall
abbrev fV(l:List Dt)(s:List UInt8)(x y:Int): List Ob:=[.box [.d (dts l)],.box [.d (str s)],.box [.d (i64 x)],.box [.d (i64 y)]]
abbrev fA(fx:Nat->Option Nat)(l:List Dt)(s:List UInt8)(x y:Int): List Ob:=[.bx (fx 0) none [.d (dts l)],.bx (fx 1) none [.d (str s)],.bx (fx 2) none [.d (i64 x)],.bx (fx 3) none [.d (i64 y)]]
abbrev fP: List SV:=[.ptr 0 0,.ptr 1 0,.ptr 2 0,.ptr 3 0]
def fR(r:Option (Nat×Nat)): Int×Int:=match r with
 |some (i,k)=>(i,k)
 |none=>(0,0)
theorem zYY{l:List Dt}{s:List UInt8}{i k:Nat}{d:Dt}{c:Ct}(hd:l[i]?=some d)(hc:d.cons[k]?=some c)(_hl:l.length<=2000000)(_hk:d.cons.length<=2000000):
  zBR prog 116 (.d (i64 (i:Int)) :: .d (i64 (k:Int))::fP) (fV l s 0 0) (.d (bl (decide (c.name=s)))) (fV l s (if c.name=s then i else 0) (if c.name=s then k else 0)):=by
 have hi:=(qAA.1 hd).1
 have hj:=(qAA.1 hc).1
 have hd':l[(i:Int).toNat]?=some d:=hd
 have hc':d.cons[(k:Int).toNat]?=some c:=hc
 refine zCl func116 rfl ntmps116 results116 rfl rfl rfl ?_
 intro wb St0 X fx
 repeat' first|apply en_n|apply zAE|apply zAA|apply zAD|apply w0|exact zFL rfl rfl|refine aJA ?_|refine ayA rfl ?_|apply ay (hd:=rfl)|(refine w0' ?_)|refine aStA ?_|(apply zA3;exact rfl;all_goals intro hb)|apply zAM|apply zAN|refine awDA ?_|apply en_r
 ·rw[if_neg hb,if_neg hb]
  exact zB8 (zAV (Le_d rfl (zCX (by rw[decide_eq_false hb])) Le_nil) (zAT rfl rfl (zAT rfl rfl (zAT rfl rfl (zAT rfl rfl zAW)))) rfl rfl)
 ·have hq:c.name=s:=qBH hb
  rw[if_pos hq,if_pos hq]
  exact zB8 (zAV (Le_d rfl (zCX (by rw[decide_eq_true hq])) Le_nil) (zAT rfl rfl (zAT rfl rfl (zAT rfl rfl (zAT rfl rfl zAW)))) rfl rfl)
theorem zRA{l:List Dt}{s:List UInt8}{i k:Nat}{d:Dt}{c:Ct}(hd:l[i]?=some d)(hc:d.cons[k]?=some c): zHM l s i k=decide (c.name=s):=by
 unfold zHM;rw[zG7 hd hc]
theorem zXy{l:List Dt}{s:List UInt8}(hl:l.length<=2000000)(hc:∀d∈l,d.cons.length<=2000000):
  zBR prog 67 [.d (dts l),.clo 116 [0,1,2,3]] (fV l s 0 0) (.d (bl (zEA l s).isSome)) (fV l s (fR (zEA l s)).1 (fR (zEA l s)).2):=by
 refine zCl func67 rfl ntmps67 results67 rfl rfl rfl ?_
 intro wb St0 X fx
 repeat' first|apply en_n|apply zAE|apply zAA|apply zAD|apply w0|refine ayA rfl ?_|apply zAH
 refine zAt (α:=Nat) (fun i=>i<=l.length/\∀(j:Nat) d,j<i->l[j]?=some d->∀k,k<d.cons.length->zHM l s j k=false) (fun i=>[(1,.clo 116 [0,1,2,3]),(8,.d (dts l)),(9,.d (i64 (l.length:Int))),(10,.d (i64 (i:Int)))]) (fun _=>fA fx l s 0 0) (fun i=>l.length-i) 0 ⟨qAO _,fun j u h=>by omega⟩
  (zAV (Le_cons rfl (Le_cons rfl (Le_d rfl rfl (Le_all rfl)))) (zAT rfl rfl (zAT rfl rfl (zAT rfl rfl (zAT rfl rfl zAW)))) rfl rfl) ?_
 rintro i ⟨hi1,hi2⟩
 repeat' first|apply en_n|apply zAE|apply zAA|apply zAD|apply w0|(apply aI (hd:=rfl);(first|exact zAr rfl|exact Co_bb rfl rfl rfl|exact Co_nn rfl);exact rfl;(with_reducible exact zCN);exact fun _=>rfl;rotate_left;intro v hv;rotate_right)|refine aAlA ?_|refine ayA rfl ?_|apply ay (hd:=rfl)|exact zCt rfl rfl|(refine w0' ?_)|refine aStA ?_|(apply zA3;exact rfl;all_goals intro hb)|apply zAH|apply zAM|apply zAN|apply zAz|apply en_e|apply eb_e
 ·omega
 ·obtain⟨d,hd⟩:∃d,l[i]?=some d:=⟨_,hv⟩
  have hvd:v=d:=by have h:l[i]?=some v:=hv;rw[hd]at h;injection h with h;exact h.symm
  subst hvd
  have hw:=hv;clear hv
  have hcd:=hc v (qAC hd)
  refine zAt (α:=Nat) (fun k=>k<=v.cons.length/\∀k',k'<k->zHM l s i k'=false) (fun k=>[(1,.clo 116 [0,1,2,3]),(5,.d (i64 (i:Int))),(8,.d (dts l)),(9,.d (i64 (l.length:Int))),(10,.d (i64 (i:Int))),(17,.d (i64 (v.cons.length:Int))),(18,.d (i64 (k:Int)))]) (fun _=>fA fx l s 0 0) (fun k=>v.cons.length-k) 0 ⟨qAO _,fun j h=>by omega⟩
   (zAV (Le_cons rfl (Le_cons rfl (Le_cons rfl (Le_cons rfl (Le_cons rfl (Le_d rfl rfl (Le_all rfl))))))) (zAT rfl rfl (zAT rfl rfl (zAT rfl rfl (zAT rfl rfl zAW)))) rfl rfl) ?_
  rintro k ⟨hk1,hk2⟩
  rcases qAF k v.cons.length with hlt|hge
  ·obtain⟨c,hcc⟩:∃c,v.cons[k]?=some c:=⟨_,qAB hlt⟩
   have hq:=zYY (s:=s) hd hcc hl hcd
   have hi:=zRA (s:=s) hd hcc
   by_cases hn:c.name=s
   ·rw[if_pos hn,if_pos hn,decide_eq_true hn]at hq
    rw[decide_eq_true hn]at hi
    repeat' first|apply en_n|apply zAE|apply zAA|apply zAD|apply w0|(refine zcJ [0,1,2,3] [0,1,2,3] rfl rfl zRJ (hq) rfl (SArgs_all rfl) rfl rfl dC rfl rfl rfl rfl rfl rfl ?_)|refine ayA rfl ?_|refine ayQ rfl ?_|refine zAJ rfl ?_|apply zAH|apply zAM|apply zAN|apply en_r|apply eb_r
    have hr:zEA l s=some (i,k):=by
     have:=zIt (p:=zHM l s) (b:=0) (k:=k) hd hlt (fun i' d' h1 h2 k' h3=>by rw[qAS];exact hi2 i' d' h1 h2 k' h3) (fun k' h=>by rw[qAS];exact hk2 k' h) (by rw[qAS];exact hi)
     rw[qAS]at this;exact this
    rw[hr]
    exact zB8 (zAV (Le_all rfl) (zAT rfl rfl (zAT rfl rfl (zAT rfl rfl (zAT rfl rfl zAW)))) rfl rfl)
   ·rw[if_neg hn,if_neg hn,decide_eq_false hn]at hq
    rw[decide_eq_false hn]at hi
    repeat' first|apply en_n|apply zAE|apply zAA|apply zAD|apply w0|(refine zcJ [0,1,2,3] [0,1,2,3] rfl rfl zRJ (hq) rfl (SArgs_all rfl) rfl rfl dC rfl rfl rfl rfl rfl rfl ?_)|refine ayA rfl ?_|refine ayQ rfl ?_|apply ay (hd:=rfl)|refine zBN rfl rfl ?_|refine zAJ rfl ?_|refine zAK rfl ?_|apply zAH|apply zAM|apply eb_n
    ·omega
    ·refine⟨k+1,⟨by omega,fun k' h=>?_⟩,by omega,zAV (Le_all rfl) (zAT rfl rfl (zAT rfl rfl (zAT rfl rfl (zAT rfl rfl zAW)))) rfl rfl⟩
     rcases qAF k' k with h1|h1
     ·exact hk2 k' h1
     ·rw[show k'=k by omega];exact hi
  ·have hx:¬(k:Int)<(v.cons.length:Int):=by omega
   repeat' first|apply en_n|apply zAE|apply zAA|apply zAD|apply w0|refine ayA rfl ?_|refine ayQ rfl ?_|apply ay (hd:=rfl)|refine zBN rfl rfl ?_|refine zAK rfl ?_|apply zAz|apply en_e|apply eb_n|apply eb_e
   ·omega
   ·refine⟨i+1,⟨by omega,fun j d h h2 k' h3=>?_⟩,by omega,zAV (Le_all rfl) (zAT rfl rfl (zAT rfl rfl (zAT rfl rfl (zAT rfl rfl zAW)))) rfl rfl⟩
    rcases qAF j i with h1|h1
    ·exact hi2 j d h1 h2 k' h3
    ·have e:j=i:=by omega
     subst e
     rw[hd]at h2;injection h2 with h2;subst h2
     exact hk2 k' oM
 ·have hr:zEA l s=none:=zGj fun j d h k hk=>by rw[qAS];exact hi2 j d (by have:=(qAA.1 h).1;omega) h k hk
  rw[hr]
  exact zB8 (zAV (Le_all rfl) (zAT rfl rfl (zAT rfl rfl (zAT rfl rfl (zAT rfl rfl zAW)))) rfl rfl)
theorem zQM{l:List Dt}(s:List UInt8)(hl:l.length<=2000000)(hc:∀d∈l,d.cons.length<=2000000):
  zAX prog 48 [dts l,str s] (.tup [i64 (fR (zEA l s)).1,i64 (fR (zEA l s)).2,bl (zEA l s).isSome]):=by
 have hq:=zXy (s:=s) hl hc
 generalize zEA l s=r at *
 refine zAc func48 rfl ntmps48 results48 rfl ?_
 intro wb St0
 repeat' first|apply en_n|apply zAE|apply zAA|apply zAD|apply w0|(refine zEt [0,1,2,3] zPw (hq) (SArgs_all rfl) rfl rfl dC rfl rfl rfl rfl rfl rfl ?_)|refine aBoA ?_|refine aAlA ?_|refine ayA rfl ?_|apply ay (hd:=rfl)|exact zQI rfl|(refine w0' ?_)|refine aStA ?_|apply zAN|refine awDA ?_|apply zAO
 exact⟨rfl,rfl,rfl⟩
theorem zNV{η:List Ob}{σ:Sl}{x:Operand}{xs:List Operand}{f:FuncId}{ds:List D}(h:oval σ x=.clo f [])(r:CoL η σ xs ds): CoL η σ (x::xs) (.clo f []::ds):=⟨zcf h,r⟩
structure DtL(l:List Dt): Prop where
 len:l.length<=2000000
 cons:∀d∈l,d.cons.length<=2000000
 args:∀d∈l,∀c∈d.cons,c.args.length<=2000000/\∀t∈c.args,t.length<=2000000
theorem zXi{l:List Dt}{i k:Nat}{d:Dt}{c:Ct}(hd:l[i]?=some d)(hc:d.cons[k]?=some c): ∃r,zEA l c.name=some r:=by
 cases h:zEA l c.name with
 |some r=>exact⟨r,rfl⟩
 |none =>
  have:=zHm h i d hd k (qAA.1 hc).1
  rw[qAS,zRA hd hc,decide_eq_true rfl]at this
  cases this
theorem zSw{l:List Dt}(hL:DtL l){i k:Nat}{d:Dt}{c:Ct}(hd:l[i]?=some d)(hc:d.cons[k]?=some c): zAX prog 66 [i64 (i:Int),i64 (k:Int),.ref [dts l]] (bl (zHB l i k)):=by
 have hF:=zQM c.name hL.len hL.cons
 unfold zHB
 rw[zG7 hd hc]
 obtain⟨⟨x,y⟩,hr⟩:=zXi hd hc
 rw[hr]at hF ⊢
 replace hF:zAX prog 48 [dts l,str c.name] (.tup [i64 (x:Int),i64 (y:Int),bl true]):=hF
 have hl:=hL.len
 have hk:=hL.cons d (qAC hd)
 have hi:=(qAA.1 hd).1
 have hj:=(qAA.1 hc).1
 have hd':l[(i:Int).toNat]?=some d:=hd
 have hc':d.cons[(k:Int).toNat]?=some c:=hc
 refine zAc func66 rfl ntmps66 results66 rfl ?_
 intro wb St0
 repeat' first|apply en_n|apply zAE|apply zAA|apply zAD|apply w0|refine k0u (hd:=rfl) rfl rfl ?_|exact zDu rfl zFS|exact ycA zIA hF|refine aJA ?_|refine ayA rfl ?_|apply ay (hd:=rfl)|exact zEp rfl rfl|refine w1 rfl rfl ?_|(apply gD;exact rfl;exact rfl;all_goals intro hb)|apply zAN|refine awDA ?_|apply zAO|refine res1 rfl ?_
 ·refine zCX ?_
  symm
  simp only[ne_eq,decide_eq_true_eq]
  intro h;injection h with h;injection h with h1 h2;exact hb (by rw[h1])
 ·refine zCX ?_
  rw[decide_eq_decide]
  have hx:x=i:=by omega
  subst hx
  constructor
  ·intro h h2;injection h2 with h2;injection h2 with _ h2;exact h (by rw[h2])
  ·intro h h2;exact h (by rw[show y=k by omega])
end Go.Proofs.YtjcgiiedaccjpaaGreatDoor
namespace Go.Proofs.YtjcgiiedaccjpaaGreatDoor
open _root_.Go.Proofs.Tryz
open Go.Sx
theorem zQd{l:List Dt}{i:Nat}{v:Dt}(hi:l[i]?=some v)(h:idxP (fun u=>decide (u.name=v.name)) l<(i:Int)): zLh l=true:=by
 refine qBK.2 ⟨i,qBY.2 (qAA.1 hi).1,?_⟩
 rw[qAL,hi]
 exact decide_eq_true h
theorem zQe{l:List Dt}(h:∀(i:Nat) (v:Dt),l[i]?=some v->¬idxP (fun u=>decide (u.name=v.name)) l<(i:Int)): zLh l=false:=by
 refine Bool.eq_false_iff.2 fun hc=>?_
 obtain⟨i,hi,hq⟩:=qBK.1 hc
 have hl:=qBY.1 hi
 have:=h i l[i] (qAB hl)
 rw[qAL,qAB hl]at hq
 exact this (of_decide_eq_true hq)
attribute [local irreducible] zAQ Program.underlying Ylds zBJ alex zBk zBZ awp zAX FCall zBo zBR zBX zBb zBD zBd zBj zBn zBu zBP VCall
theorem zVp{l:List Dt}(hL:DtL l): zAX prog 30 [dts l] (i64 (zFJ l)):=by
 have hl:=hL.len
 have h1:zAX prog 61 [dts l,.clo 62 []] (bl (l.any fun d=>!zCj d)) :=
  zci (fun u hu=>zJn zU4 (zSy u (hL.cons u hu) (hL.args u hu))) hl
 have h2:∀d:Dt,zAX prog 64 [dts l,.clo 65 [.ref d.cells]] (i64 (idxP (fun u=>decide (u.name=d.name)) l)) :=
  fun d=>zcc (fun u=>zJn zU3 (zSx d u)) l hl
 have h3:zAX prog 67 [dts l,.clo 66 [.ref [dts l]]] (bl (zEG (zHB l) 0 l).isSome) :=
  zYv (fun i k d hd hk=>zJn zU2 (zSw hL hd (qAB hk))) hl hL.cons
 have h4:zAX prog 67 [dts l,.clo 71 [.ref [dts l],.ref [zSL l]]] (bl (zEG (zHu l) 0 l).isSome) :=
  zYv (fun i k d hd hk=>zJn zU0 (zSu l hl hd (qAB hk) (hL.cons d (qAC hd)) (hL.args d (qAC hd) _ (qBc hk)))) hl hL.cons
 have e1:l.any (fun d=>!zCj d) = !l.all zCj:=by rw[List.any_eq_not_all_not];simp
 have e3:(zEG (zHB l) 0 l).isSome=true↔zEG (zHB l) 0 l≠none:=by cases zEG (zHB l) 0 l <;> simp
 have e4:(zEG (zHu l) 0 l).isSome=true↔zEG (zHu l) 0 l≠none:=by cases zEG (zHu l) 0 l <;> simp
 rw[e1]at h1
 unfold zFJ
 generalize l.all zCj=q1 at *
 generalize (zEG (zHB l) 0 l).isSome=q3 at *
 generalize (zEG (zHu l) 0 l).isSome=q4 at *
 refine zAc func30 rfl ntmps30 results30 rfl ?_
 intro wb St0
 repeat' first|(apply ay (hd:=rfl);apply zDr;exact rfl;exact rfl)|apply en_n|apply zAE|apply zAA|apply zAD|apply w0|refine k0u (hd:=rfl) rfl rfl ?_|exact zDu rfl zFS|(refine zAP zYo h1 (zAL rfl (zNV rfl zAF)))|refine ayA rfl ?_|apply ay (hd:=rfl)|exact zF4 rfl rfl|refine w1 rfl rfl ?_|(apply gD;exact rfl;exact rfl;all_goals intro hb)|refine zAJ rfl ?_|(apply zCd;exact rfl;all_goals intro hb)|apply zAH|apply zAM|apply zAN|apply en_r|apply zAO|refine res1 rfl ?_
 ·exact zCm (by rw[if_pos (.inl oM)])
 ·exact zCm (by rw[if_pos (.inr (by simpa using hb))])
 rename_i hb1
 have hq1:¬(60<l.length\/q1=false):=by
  have:q1=true:=by simpa using hb
  rw[this]
  rintro(h|h)
  ·omega
  ·cases h
 clear hb hb1 h1 e1
 refine zAt (α:=Nat) (fun i=>i<=l.length/\∀(j:Nat) v,j<i->l[j]?=some v->¬idxP (fun u=>decide (u.name=v.name)) l<(j:Int)) (fun i=>[(1,.d (.ref [dts l])),(15,.d (dts l)),(16,.d (i64 (l.length:Int))),(17,.d (i64 (i:Int)))]) (fun _=>[]) (fun i=>l.length-i) 0 ⟨qAO _,fun j u h=>by omega⟩
  (zAV (Le_cons rfl (Le_cons rfl (Le_d rfl rfl (Le_all rfl)))) zAW rfl rfl) ?_
 rintro i ⟨hi1,hi2⟩
 repeat' first|(refine zJW (ds:=v.cells) 0 4 rfl rfl rfl ?_)|(refine zJW (ds:=[zSL l]) 0 6 rfl rfl rfl ?_)|apply en_n|apply zAE|apply zAA|apply zAD|apply w0|(refine zHQ (zAL rfl zAF))|exact zDu rfl zFS|exact ycA zUt (h2 v)|(refine zHQ (zAL rfl (zAL rfl zAF)))|exact ycA zPw h3|exact ycA zPw h4|(apply aI (hd:=rfl);(first|exact zAr rfl|exact Co_bb rfl rfl rfl|exact Co_nn rfl);exact rfl;(with_reducible exact zCN);exact fun _=>rfl;rotate_left;intro v hv;rotate_right)|refine aAlA ?_|refine ayA rfl ?_|apply ay (hd:=rfl)|exact zCt rfl rfl|refine zBN rfl rfl ?_|(refine w0' ?_)|refine aStA ?_|(apply zA3;exact rfl;all_goals intro hb)|(apply zCd;exact rfl;all_goals intro hb)|apply zAH|apply zAM|apply zAN|apply zAz|apply en_r|apply en_e|apply eb_n|apply eb_r|apply eb_e|apply zAO|refine res1 rfl ?_
 ·omega
 ·exact zCm (by rw[if_neg hq1,if_pos (zQd (i:=i) hv hb)])
 ·omega
 ·refine⟨i+1,⟨by omega,fun j u hj hu=>?_⟩,by omega,zAV (Le_all rfl) zAW rfl rfl⟩
  rcases qAF j i with h1|h1
  ·exact hi2 j u h1 hu
  ·have hv':l[i]?=some v:=hv
   rw[show j=i by omega,hv']at hu;injection hu with hu;subst hu
   rw[show j=i by omega];exact hb
 all_goals have ht:zLh l=false:=zQe fun j v hj=>hi2 j v pAL hj
 ·exact zCm (by rw[if_neg hq1,if_neg (by rw[ht];decide),if_pos (e3.1 hb)])
 ·rename_i hn3
  exact zCm (by rw[if_neg hq1,if_neg (by rw[ht];decide),if_neg (fun h=>by rw[e3.2 h]at hn3;cases hn3),if_pos (e4.1 hb)])
 ·rename_i hn3
  exact zCm (by rw[if_neg hq1,if_neg (by rw[ht];decide),if_neg (fun h=>by rw[e3.2 h]at hn3;cases hn3),if_neg (fun h=>by rw[e4.2 h]at hb;cases hb)])
open Go.Ev
theorem zH5(s:List UInt8)(f:FuncId): zAX prog 86 [str s,.clo f []] (.agg [str s,i64 2,zMp f]):=by
 refine zBw func86 rfl ntmps86 results86 rfl ?_
 intro wb St0
 exact yT
abbrev bisD: D:=bis (List.range 14)
theorem zLL: zAX prog 36 [] bisD:=by
 refine zAc func36 rfl ntmps36 results36 rfl ?_
 intro wb St0
 repeat' first|apply en_n|apply zAE|apply zAA|apply zAD|apply w0|(refine zAP zH8 (zH5 addT 87) (zAL rfl (zNV rfl zAF)))|(refine zAP zH8 (zH5 subT 89) (zAL rfl (zNV rfl zAF)))|(refine zAP zH8 (zH5 mulT 91) (zAL rfl (zNV rfl zAF)))|(refine zAP zH8 (zH5 divT 93) (zAL rfl (zNV rfl zAF)))|(refine zAP zH8 (zH5 modT 96) (zAL rfl (zNV rfl zAF)))|(refine zAP zH8 (zH5 eqT 98) (zAL rfl (zNV rfl zAF)))|(refine zAP zH8 (zH5 ltT 100) (zAL rfl (zNV rfl zAF)))|(refine zAo (cs:=[str catT,i64 2,.clo 101 []]) zFc zDU (PD_d rfl rfl (PD_d rfl rfl (PD_c rfl zBE))) rfl)|(refine zAo (cs:=[str lenT,i64 1,.clo 102 []]) zFc zDU (PD_d rfl rfl (PD_d rfl rfl (PD_c rfl zBE))) rfl)|(refine zAo (cs:=[str refT,i64 1,.clo 103 []]) zFc zDU (PD_d rfl rfl (PD_d rfl rfl (PD_c rfl zBE))) rfl)|(refine zAo (cs:=[str getT,i64 1,.clo 104 []]) zFc zDU (PD_d rfl rfl (PD_d rfl rfl (PD_c rfl zBE))) rfl)|(refine zAo (cs:=[str setT,i64 2,.clo 105 []]) zFc zDU (PD_d rfl rfl (PD_d rfl rfl (PD_c rfl zBE))) rfl)|(refine zAo (cs:=[str putT,i64 1,.clo 106 []]) zFc zDU (PD_d rfl rfl (PD_d rfl rfl (PD_c rfl zBE))) rfl)|(refine zAo (cs:=[str sayT,i64 1,.clo 108 []]) zFc zDU (PD_d rfl rfl (PD_d rfl rfl (PD_c rfl zBE))) rfl)|(refine zS7 (n:=14) (xs:=[.tmp 1,.tmp 2,.tmp 3,.tmp 4,.tmp 5,.tmp 6,.tmp 7,.tmp 8,.tmp 9,.tmp 10,.tmp 11,.tmp 12,.tmp 13,.tmp 14]) (ds:=(List.range 14).map biD) zVW zHk zXq rfl rfl rfl rfl (zAL rfl (zAL rfl (zAL rfl (zAL rfl (zAL rfl (zAL rfl (zAL rfl (zAL rfl (zAL rfl (zAL rfl (zAL rfl (zAL rfl (zAL rfl (zAL rfl zAF)))))))))))))) (zCe fun _=>rfl) rfl)|refine ayA rfl ?_|apply ay (hd:=rfl)|apply zAN|apply zAO|refine res1 rfl ?_
 rfl
theorem zXj(s:List UInt8)(p:Nat): zAX prog 145 [biD p,.ref [str s]] (bl (decide (zCS p=s))):=by
 refine zAc func145 rfl ntmps145 results145 rfl ?_
 intro wb St0
 exact yh
theorem zUG(s:List UInt8): idxP (fun p=>decide (zCS p=s)) (List.range 14)=if pidx s<14 then(pidx s:Int)else -1:=by
 unfold idxP pidx
 generalize hq:List.findIdx? (fun p=>decide (zCS p=s)) (List.range 14)=r
 cases r with
 |some i =>
  have:=(qA2.1 hq).1
  rw[qA6]at this
  exact(if_pos this).symm
 |none=>rfl
theorem zUF(s:List UInt8): pidx s<=14:=by
 unfold pidx
 split
 ·rename_i i hi
  have:=(qA2.1 hi).1
  rw[qA6]at this;omega
 ·exact qAN _
theorem zRN(s:List UInt8): zAX prog 78 [str s] (.tup [biD (pidx s),bl (decide (pidx s<14))]):=by
 have hF:zAX prog 144 [bisD,.clo 145 [.ref [str s]]] (i64 (idxP (fun p=>decide (zCS p=s)) (List.range 14))) :=
  zdR (fun u=>zJn zXX (zXj s u)) (List.range 14) dC
 rw[zUG]at hF
 have hB:=zLL
 have h14:=zUF s
 have hget:∀h:pidx s<14,(List.range 14)[((pidx s:Nat):Int).toNat]?=some (pidx s):=fun h=>by
  rw[qAT,List.getElem?_range h]
 generalize pidx s=q at *
 by_cases hq:q<14
 ·rw[if_pos hq]at hF
  rw[decide_eq_true hq]
  have hg:=hget hq
  have hn:¬(q:Int)<0:=by omega
  refine zBw func78 rfl ntmps78 results78 rfl ?_
  intro wb St0
  unfold bisD bis at *
  exact yT
 ·rw[if_neg hq]at hF
  have:q=14:=by omega
  subst this
  refine zBw func78 rfl ntmps78 results78 rfl ?_
  intro wb St0
  exact yT
end Go.Proofs.YtjcgiiedaccjpaaGreatDoor
namespace Go.Proofs.YtjcgiiedaccjpaaGreatDoor
open _root_.Go.Proofs.Tryz
open Go.Sx Go.Ev
structure Rn where
 L:List Nd
 T:List Dt
 fuel:Nat
abbrev Rn.MB(R:Rn)(s:S): List Ob:=YtjcgiiedaccjpaaGreatDoor.MB R.L R.T R.fuel s
abbrev Rn.MA(R:Rn)(fx:Nat->Option Nat)(s:S)(bs:List Nat): List Ob :=
 [.bx (fx 0) none [.d (zAu R.L),.d (dts R.T),.d (i64 (R.fuel:Int)),.d (i64 (s.steps:Int)),.buf 1 s.out.length,.d (i64 s.fin),.d (i64 s.raised)],
  .buf true 9 1 (s.out.map str)]++hidL (zBc bs s.cells)
def Eok(bs:List Nat)(s':S)(y:List Nat): Prop:=bs <+: y/\y.length=s'.cells.length
def Rn.To(R:Rn)(f:FuncId)(avs:List SV)(s:S)(bs:List Nat)(s':S)(dv:List Nat->D): Prop :=
 zEg prog f avs (R.MB s) (zBc bs s.cells) (Eok bs s') (fun y=>.d (dv y)) (fun _=>R.MB s') (fun y=>zBc y s'.cells)
theorem Rn.MA_bel(R:Rn)(fx:Nat->Option Nat)(s:S)(bs:List Nat): (R.MA fx s bs).all (Ob.below (R.MA fx s bs).length)=true:=by
 unfold Rn.MA
 rw[qBp,qAR]
 refine⟨qAI.2 fun p hp=>zEC (m:=2) sI ?_,qAI.2 fun p hp=>zEC (qAO _) (zBF _ p hp).bel⟩
 have h:([.bx (fx 0) none [.d (zAu R.L),.d (dts R.T),.d (i64 (R.fuel:Int)),.d (i64 (s.steps:Int)),.buf 1 s.out.length,.d (i64 s.fin),.d (i64 s.raised)],.buf true 9 1 (s.out.map str)]:List Ob).all (Ob.below 2)=true:=rfl
 exact qAI.1 h p hp
theorem zWM: ∀(h:List Ob) (r:List Ob),Pre h (h++r)
 |[],_=>trivial
 |_::h,r=>⟨fun _ _ _ h=>h,zWM h r⟩
theorem Rn.to_of{R:Rn}{f:FuncId}{fn:Func}{c:Code}{avs:List SV}{s s':S}{bs:List Nat}{dv:List Nat->D}{N:Nat}{rs:Array ResultVar}(hbs:bs.length=s.cells.length)(hf:prog.funcs[f]?=some fn)(hb:fn.body=some c)(hN:fn.ntmps=N)(hrs:fn.results=rs)(hl:Nat.ble avs.length N=true)
  (h:∀(w0:World) (St0:Stab) (X:Nat->Prop) (fx:Nat->Option Nat),awp ⟨prog,N,w0,St0,X,0⟩ c (zEL rs (Eok bs s') (fun y=>.d (dv y)) fun y=>R.MA fx s' y) (zN2 avs 0) (R.MA fx s bs)):R.To f avs s bs s' dv :=
 zXx hf hb hN hrs hl (fun _ hy=>⟨rfl,rfl,zA1 hy.1 hbs hy.2⟩) h
theorem Rn.ret{R:Rn}{s':S}{bs y:List Nat}{dv:List Nat->D}{fx:Nat->Option Nat}{σ:Sl}{η own:List Ob}{k:Nat}(hy:Eok bs s' y)(hs:get σ k=.d (dv y))(he:η=R.MA fx s' y++own): zEL #[.tmp k] (Eok bs s') (fun y=>.d (dv y)) (fun y=>R.MA fx s' y) .ret σ η:=by
 subst he
 exact zVX y hy (zAV (Le_cons hs Le_nil) (zWM _ _) rfl (R.MA_bel fx s' y))
theorem Rn.ret0{R:Rn}{s':S}{bs y:List Nat}{dv:List Nat->D}{fx:Nat->Option Nat}{σ:Sl}{η:List Ob}{k:Nat}(hy:Eok bs s' y)(hs:get σ k=.d (dv y))(he:η=R.MA fx s' y): zEL #[.tmp k] (Eok bs s') (fun y=>.d (dv y)) (fun y=>R.MA fx s' y) .ret σ η :=
 Rn.ret (own:=[]) hy hs (by rw[he,qA0])
theorem zB0{C:Ctx}{Q:Exit->Sl->List Ob->Prop}{σ:Sl}{η:List Ob}{s:SV}(k m p:Nat){H:List (Nat×D)}(hη:η.drop (m+p)=hidL H)(hm:(η.take m).length=m)(hs:get σ k=s)(hb:s.bel m=true)(hv:(η.take m).all (Ob.below m)=true)(hA:((η.drop m).take p).all (Ob.below m)=true)(hro:Nat.ble C.ro m=true)
  (h:Q .ret [(k,s)] (η.take m++(hidL H++(η.drop m).take p))):awp C .ret Q σ η:=by
 refine zcB (σ':=[(k,s)]) (Le_cons hs Le_nil) ?_
 refine zar H m p hη hm (by show (s.bel m&&true)=true;rw[hb];rfl) hv hA hro ?_
 exact zAN h
theorem Rn.retO{R:Rn}{s':S}{bs y:List Nat}{dv:List Nat->D}{fx:Nat->Option Nat}{σ:Sl}{η own:List Ob}{k:Nat}{H:List (Nat×D)}(hy:Eok bs s' y)(hs:get σ k=.d (dv y))(h2:η.take 2=(R.MA fx s' y).take 2)(hH:H=zBc y s'.cells): zEL #[.tmp k] (Eok bs s') (fun y=>.d (dv y)) (fun y=>R.MA fx s' y) .ret σ (η.take 2++(hidL H++own)):=by
 subst hH
 refine Rn.ret (own:=own) hy hs ?_
 rw[h2];rfl
def tyV: V->TypeId
 | .num _=>101
 | .text _=>106
 | .con _ _ _=>108
 | .prim _ _=>165
 | .fn _ _ _ _=>112
 | .cell _=>155
theorem zDX(bs:List Nat)(v:V): ∃d,encV bs v=.ifc (tyV v) d:=by cases v <;> exact⟨_,rfl⟩
theorem zIN{v:V}(h:∀n,v≠.num n): Nat.beq (tyV v) 101=false:=by cases v <;> first|rfl|exact absurd rfl (h _)
theorem zKQ{v:V}(h:∀n,v≠.text n): Nat.beq (tyV v) 106=false:=by cases v <;> first|rfl|exact absurd rfl (h _)
theorem zTX{v:V}(h:∀n,v≠.cell n): Nat.beq (tyV v) 155=false:=by cases v <;> first|rfl|exact absurd rfl (h _)
attribute [local irreducible] zAQ Program.underlying Ylds zBJ alex zBk zBZ awp zAX FCall zBo zBR zBX zEg zBb zBD zBd zBj zBn zBu zEL zBP VCall
theorem zF8(R:Rn)(s:S)(bs:List Nat)(hbs:bs.length=s.cells.length)(e:Int): R.To 45 [.ptr 0 0,.d (i64 e)] s bs (s.stop e).2 (fun _=>encV [] (.num 0)):=by
 refine Rn.to_of hbs func45 rfl ntmps45 results45 rfl ?_
 intro wb St0 X fx
 repeat' first|apply en_n|apply zAE|apply zAA|apply zAD|apply w0|(refine zAo (cs:=[i64 0]) zD5 zCM zBE rfl)|(apply zDj;exact rfl;with_reducible exact zCh)|refine ayA rfl ?_|apply ay (hd:=rfl)|(refine w0' ?_)|refine aStA ?_|apply zAN
 exact Rn.ret0 (y:=bs) ⟨qAw,hbs⟩ rfl rfl
theorem zMh(R:Rn)(s:S)(bs:List Nat)(hbs:bs.length=s.cells.length)(n:Int): R.To 50 [.ptr 0 0,.d (i64 n)] s bs (s.raise n).2 (fun _=>encV [] (.num 0)):=by
 have hs:=zF8 R { s with raised:=n } bs hbs 2
 refine Rn.to_of hbs func50 rfl ntmps50 results50 rfl ?_
 intro wb St0 X fx
 repeat' first|apply en_n|apply zAE|apply zAA|apply zAD|apply w0|(refine zCH 2 [0,1] zDv (hs) rfl rfl rfl rfl (SArgs_all rfl) rfl rfl dC rfl rfl rfl rfl rfl rfl rfl (fun y0 hy0=>⟨rfl,rfl,rfl,zA1 hy0.1 hbs hy0.2⟩) (fun y hy=>?_))|refine ayA rfl ?_|(refine w0' ?_)|refine aStA ?_|apply zAN
 exact Rn.ret0 hy rfl rfl
end Go.Proofs.YtjcgiiedaccjpaaGreatDoor
namespace Go.Proofs.YtjcgiiedaccjpaaGreatDoor
open _root_.Go.Proofs.Tryz
open Go.Sx Go.Ev
def Rn.pg(R:Rn): Pg where
 node:=fun k=>⟨(R.L.getD k ⟨0,[],0,0⟩).kind,(R.L.getD k ⟨0,[],0,0⟩).text,(R.L.getD k ⟨0,[],0,0⟩).num,(R.L.getD k ⟨0,[],0,0⟩).kids.toNat⟩
 kid:=fun k j=>((zB3 R.L (k:Int)).getD j 0).toNat
 need:=fun s=>(zHs R.T (fR (zEA R.T s)).1.toNat (fR (zEA R.T s)).2.toNat).args.length
 name:=pidx
 deep:=R.L.length+1
 fuel:=R.fuel
theorem Rn.node_at{R:Rn}{k:Nat}{x:Nd}(h:R.L[k]?=some x): R.pg.node k=⟨x.kind,x.text,x.num,x.kids.toNat⟩:=by
 unfold Rn.pg
 simp only[qAL,h,qBE]
theorem Rn.kid_at{R:Rn}{k:Nat}{x:Nd}{ks:List Tr}(h:At R.L k (.mk x ks)){j:Nat}(hj:j<ks.length): R.pg.kid k j=kidAt k ks j:=by
 unfold Rn.pg
 simp only[qAL,h.kids_get hj,qBE,qAT]
def esz: Env->Nat
 | .nil=>0
 | .cons _ _ up=>esz up+1
attribute [local irreducible] zAQ Program.underlying Ylds zBJ alex zBk zBZ awp zAX FCall zBo zBR zBX zEg zBb zBD zBd zBj zBn zBu zEL zBP VCall
theorem zQb: prog.underlying 99=some (.pointer (prog.pointee 99)):=by kernel_rfl
theorem zbF(R:Rn)(s:S)(bs:List Nat)(x:List UInt8)(e0:Env): zBX prog 47 [.ptr 0 0,.d (str x),.d (encE bs e0)] (R.MB s) (encV bs (told R.pg x e0)):=by
 have hf:=zRN x
 refine zDS func47 rfl ntmps47 results47 rfl ?_
 intro wb St0
 repeat' first|apply en_n|apply zAE|apply zAA|apply zAD|apply w0|refine ayA rfl ?_|apply zAH
 refine zAt (α:=Env) (fun e=>told R.pg x e=told R.pg x e0) (fun e=>[(1,.d (str x)),(2,.d (encE bs e))]) (fun _=>R.MB s) esz e0 rfl
  (zAV (Le_all rfl) (zAT rfl rfl (zAT rfl rfl zAW)) rfl rfl) ?_
 intro e he
 rw[<-he]
 cases e with
 |nil =>
  rw[show told R.pg x .nil=.prim (pidx x) []from rfl]
  rw[show encE bs .nil=.val (.pointer none)from rfl]
  generalize pidx x=q at *
  skip
  repeat' first|(apply ay (hd:=rfl);apply zDr;exact rfl;exact rfl)|apply en_n|apply zAE|apply zAA|apply zAD|apply w0|(apply zS6;exact rfl;exact rfl;with_reducible exact zQb)|exact ycA zUx hf|(refine zAo (cs:=biC q++[.slice []]) zRV zRQ (PD_d rfl rfl zBE) rfl)|(apply zDj;exact rfl;with_reducible exact zDi)|refine aAlA ?_|refine ayA rfl ?_|apply ay (hd:=rfl)|(refine w0' ?_)|refine aStA ?_|refine zAK rfl ?_|apply zAN|apply zAz|apply en_e|apply eb_e|apply zAO|refine res1 rfl ?_
  rfl
 |cons n v up =>
  rw[show encE bs (.cons n v up)=.ref [str n,encV bs v,encE bs up]from rfl]
  obtain⟨d1,e1⟩:=zDX bs v
  skip
  repeat' first|apply en_n|apply zAE|apply zAA|apply zAD|apply w0|(apply zQH;exact rfl;exact rfl;with_reducible exact zQb)|exact zHt rfl rfl|exact zDq rfl|refine ayA rfl ?_|apply ay (hd:=rfl)|(apply zA3;exact rfl;all_goals intro hb)|refine zAJ rfl ?_|apply zAH|apply zAM|apply zAN|apply en_r|apply eb_n|apply eb_r|apply zAO|refine res1 rfl ?_
  ·rw[show told R.pg x (.cons n v up)=v by rw[told,if_pos hb]]
  ·exact⟨up,by rw[told,if_neg hb],Nat.lt_succ_self _,zAV (Le_all rfl) (zAT rfl rfl (zAT rfl rfl zAW)) rfl rfl⟩
end Go.Proofs.YtjcgiiedaccjpaaGreatDoor
namespace Go.Proofs.YtjcgiiedaccjpaaGreatDoor
open _root_.Go.Proofs.Tryz
open Go.Sx Go.Ev
abbrev vC8(so nu:Int)(te:List UInt8)(ne:Int)(ar:List D)(k:Int)(se:List UInt8)(en:List D): List D:=[i64 so,i64 nu,str te,i64 ne,.slice ar,i64 k,str se,.slice en]
mutual
def vC: V->List D
 | .num n=>vC8 0 n [] 0 [] 0 [] []
 | .text t=>vC8 1 0 t 0 [] 0 [] []
 | .con n need args=>vC8 2 0 n need (vDs args) 0 [] []
 | .prim p args=>vC8 3 0 (zCS p) (pneed p) (vDs args) 0 [] []
 | .fn n k self env=>vC8 4 0 n 0 [] k self (eDs env)
 | .cell i=>vC8 5 i [] 0 [] 0 [] []
def vDs: List V->List D
 |[]=>[]
 |v::r=>.agg (vC v)::vDs r
def eDs: Env->List D
 | .nil=>[]
 | .cons n v up=>eDs up++[.agg (str n::vC v)]
end
abbrev vD(v:V): D:=.agg (vC v)
theorem zFP: ∀l:List V,vDs l=l.map vD
 |[]=>rfl
 |v::r=>by rw[vDs,zFP r,qA1]
theorem zbC(v:V): ∃so nu te ne ar k se en,vC v=vC8 so nu te ne ar k se en:=by
 cases v <;> exact⟨_,_,_,_,_,_,_,_,by rw[vC]⟩
theorem zED(v:V): ∃so nu te ne ar k se en,vD v=.agg (vC8 so nu te ne ar k se en)/\vC v=vC8 so nu te ne ar k se en:=by
 obtain⟨_,_,_,_,_,_,_,_,h⟩:=zbC v
 exact⟨_,_,_,_,_,_,_,_,by unfold vD;rw[h],h⟩
theorem zLf(v:V): (vC v).length=8:=by obtain⟨_,_,_,_,_,_,_,_,h⟩:=zbC v;rw[h];rfl
theorem zEv(l:List V): (vDs l).length=l.length:=by rw[zFP,qAE]
theorem zJv(l:List V): ∀d∈vDs l,d.flat.length=8:=by
 rw[zFP];intro d hd
 obtain⟨v,_,rfl⟩:=qAo.1 hd
 exact zLf v
theorem zJU: ∀e:Env,(eDs e).length=esz e
 | .nil=>rfl
 | .cons n v up=>by rw[eDs,qAH,zJU up];rfl
theorem zNK: ∀(e:Env),∀d∈eDs e,d.flat.length=9
 | .nil,d,hd=>by rw[eDs]at hd;cases hd
 | .cons n v up,d,hd=>by
  rw[eDs]at hd
  rcases qAm.1 hd with h|h
  ·exact zNK up d h
  ·rw[qAs.1 h]
   show (str n::vC v).length=9
   rw[qAK,zLf]
abbrev tC(R:Rn)(s:S): List D:=[zAu R.L,dts R.T,i64 R.fuel,i64 s.steps,.slice (s.out.map str),.slice (vDs s.cells),i64 s.fin,i64 s.raised]
abbrev tD(R:Rn)(s:S): D:=.agg (tC R s)
attribute [local irreducible] zAQ Program.underlying Ylds zBJ alex zBk zBZ awp zAX FCall zBo zBR zDN zBX zEV zDB zBb zBD zBd zBj zBn zEU zBu zBP zDF vC eDs vDs
theorem zD7(n:Int): zAX prog 81 [i64 n] (.agg (vC8 0 n [] 0 [] 0 [] [])):=by
 refine zBw func81 rfl ntmps81 results81 rfl ?_
 intro wb St0
 exact ye
theorem zF6(R:Rn)(s:S)(e:Int): zAX prog 79 [tD R s,i64 e] (.tup [vD (s.stop e).1,tD R (s.stop e).2]):=by
 refine zBw func79 rfl ntmps79 results79 rfl ?_
 intro wb St0
 rw[show vD (s.stop e).1=.agg (vC8 0 0 [] 0 [] 0 [] []) by unfold vD S.stop;rw[vC]]
 rw[show tD R (s.stop e).2=tD R { s with fin:=e }from rfl]
 exact yL
end Go.Proofs.YtjcgiiedaccjpaaGreatDoor
namespace Go.Proofs.YtjcgiiedaccjpaaGreatDoor
open _root_.Go.Proofs.Tryz
open Go.Sx Go.Ev
def zGx(P:Pg)(mt:Nat->V->Env->Env×Bool)(at_:Nat): Nat->List V->Env->Env×Bool
 |_,[],e=>(e,true)
 |j,v::r,e=>if(mt (P.kid at_ j) v e).2=true then zGx P mt at_ (j+1) r (mt (P.kid at_ j) v e).1 else((mt (P.kid at_ j) v e).1,false)
def matP(P:Pg): Nat->Nat->V->Env->Env×Bool
 |0,_,_,e=>(e,false)
 |f+1,k,v,e =>
  if(P.node k).kind=21 then(e,true)
  else if(P.node k).kind=22 then(.cons (P.node k).text v e,true)
  else if(P.node k).kind=23 then(e,match v with
   | .num x=>decide (x=(P.node k).num)
   |_=>false)
  else match v with
   | .con m need args=>if m=(P.node k).text/\args.length=need/\need=(P.node k).kids then zGx P (matP P f) k 0 args e else(e,false)
   |_=>(e,false)
theorem zQ8{P:Pg}{mt:Nat->V->Env->Env×Bool}{mo:Nat->V->Env->Option Env}(h:∀k v e,mo k v e=if(mt k v e).2=true then some (mt k v e).1 else none)(at_:Nat): ∀(l:List V) (j:Nat) (e:Env),matK P mo at_ j l e=if(zGx P mt at_ j l e).2=true then some (zGx P mt at_ j l e).1 else none
 |[],_,_=>rfl
 |v::r,j,e=>by
  rw[matK,zGx,h]
  by_cases hq:(mt (P.kid at_ j) v e).2=true
  ·rw[if_pos hq,if_pos hq];exact zQ8 h at_ r (j+1) _
  ·rw[if_neg hq,if_neg hq];rfl
theorem zH2(P:Pg): ∀f k v e,mat P f k v e=if(matP P f k v e).2=true then some (matP P f k v e).1 else none
 |0,_,_,_=>rfl
 |f+1,k,v,e=>by
  unfold mat matP
  dsimp only
  by_cases h1:(P.node k).kind=21
  ·rw[if_pos h1,if_pos h1];rfl
  rw[if_neg h1,if_neg h1]
  by_cases h2:(P.node k).kind=22
  ·rw[if_pos h2,if_pos h2];rfl
  rw[if_neg h2,if_neg h2]
  by_cases h3:(P.node k).kind=23
  ·rw[if_pos h3,if_pos h3]
   cases v <;> simp
  rw[if_neg h3,if_neg h3]
  cases v with
  |con m need args =>
   dsimp only
   by_cases h4:m=(P.node k).text/\args.length=need/\need=(P.node k).kids
   ·simp only[if_pos h4];exact zQ8 (zH2 P f) k args 0 e
   ·simp only[if_neg h4];rfl
  |_=>rfl
theorem zHP(bs:List Nat)(e:Env): (encE bs e).flat=[encE bs e]:=by cases e <;> rfl
theorem zIs(bs:List Nat)(e:Env): okc (encE bs e)=true:=by cases e <;> rfl
theorem zMC(x:List UInt8)(t1:TypeId)(d:D){de:D}(h:de.flat=[de]): zJL [(0,1),(1,1),(2,1)] ([Value.string ByteArray.empty,.nilIface,.pointer none].map zdv) ([(0,str x),(1,D.ifc t1 d),(2,de)].map fun p=>(p.1,p.2.flat))=some [str x,.ifc t1 d,de]:=by
 show zJL _ _ [(0,[str x]),(1,[D.ifc t1 d]),(2,de.flat)]=_
 rw[h];rfl
attribute [local irreducible] zAQ Program.underlying Ylds zBJ alex zBk zBZ awp zAX FCall zBo zBR zBX zEg zBb zBD zBd zBj zBn zBu zEL zBP VCall
abbrev zLT(R:Rn)(s:S)(bs:List Nat)(k:Nat)(v:V)(e:Env)(r:Env×Bool): Prop :=
 zBX prog 51 [.ptr 0 0,.d (i64 (k:Int)),.d (encV bs v),.d (encE bs e)] (R.MB s) (.tup [encE bs r.1,bl r.2])
theorem zUS(R:Rn)(s:S)(bs:List Nat){k:Nat}{x:Nd}(v:V)(e:Env)(_hL:R.L.length<=1000000)(hx:R.L[k]?=some x)(hk:x.kind=21): zLT R s bs k v e (e,true):=by
 have hi:=(qAA.1 hx).1
 have hx':R.L[(k:Int).toNat]?=some x:=hx
 refine zDS func51 rfl ntmps51 results51 rfl ?_
 intro wb St0
 exact yG
theorem zUP(R:Rn)(s:S)(bs:List Nat){k:Nat}{x:Nd}(v:V)(e:Env)(_hL:R.L.length<=1000000)(hx:R.L[k]?=some x)(hk:x.kind=22): zLT R s bs k v e (.cons x.text v e,true):=by
 have hi:=(qAA.1 hx).1
 have hx':R.L[(k:Int).toNat]?=some x:=hx
 obtain⟨d1,e1⟩:=zDX bs v
 have hokE:=zIs bs e
 have hflE:=zHP bs e
 show zBX _ _ _ _ (.tup [.ref [str x.text,encV bs v,encE bs e],bl true])
 rw[e1]
 refine zDS func51 rfl ntmps51 results51 rfl ?_
 intro wb St0
 exact yT
theorem zUQ(R:Rn)(s:S)(bs:List Nat){k:Nat}{x:Nd}(n:Int)(e:Env)(_hL:R.L.length<=1000000)(hx:R.L[k]?=some x)(hk:x.kind=23): zLT R s bs k (.num n) e (e,decide (n=x.num)):=by
 have hi:=(qAA.1 hx).1
 have hx':R.L[(k:Int).toNat]?=some x:=hx
 refine zDS func51 rfl ntmps51 results51 rfl ?_
 intro wb St0
 exact yT
theorem zOI(R:Rn)(s:S)(bs:List Nat){k:Nat}{x:Nd}(v:V)(hv:∀n,v≠.num n)(e:Env)(_hL:R.L.length<=1000000)(hx:R.L[k]?=some x)(hk:x.kind=23): zLT R s bs k v e (e,false):=by
 have hi:=(qAA.1 hx).1
 have hx':R.L[(k:Int).toNat]?=some x:=hx
 obtain⟨d1,e1⟩:=zDX bs v
 have h1:=zIN hv
 show zBX _ _ _ _ (.tup [encE bs e,bl false])
 rw[e1]
 generalize tyV v=t1 at *
 refine zDS func51 rfl ntmps51 results51 rfl ?_
 intro wb St0
 exact yT
theorem zb7(v:V): (∃m need args,v=.con m need args)\/Nat.beq (tyV v) 108=false:=by cases v <;> first|exact .inl ⟨_,_,_,rfl⟩|exact .inr rfl
theorem zOJ(R:Rn)(s:S)(bs:List Nat){k:Nat}{x:Nd}(v:V)(h1:Nat.beq (tyV v) 108=false)(e:Env)(_hL:R.L.length<=1000000)(hx:R.L[k]?=some x)(k1:x.kind≠21)(k2:x.kind≠22)(k3:x.kind≠23): zLT R s bs k v e (e,false):=by
 have hi:=(qAA.1 hx).1
 have hx':R.L[(k:Int).toNat]?=some x:=hx
 obtain⟨d1,e1⟩:=zDX bs v
 show zBX _ _ _ _ (.tup [encE bs e,bl false])
 rw[e1]
 generalize tyV v=t1 at *
 refine zDS func51 rfl ntmps51 results51 rfl ?_
 intro wb St0
 exact yT
theorem zOK(R:Rn)(s:S)(bs:List Nat){k:Nat}{x:Nd}(m:List UInt8)(need:Nat)(args:List V)(e:Env)(_hL:R.L.length<=1000000)(hx:R.L[k]?=some x)(k1:x.kind≠21)(k2:x.kind≠22)(k3:x.kind≠23)(hn:¬(m=x.text/\(args.length:Int)=need/\(need:Int)=x.kids)): zLT R s bs k (.con m need args) e (e,false):=by
 have hi:=(qAA.1 hx).1
 have hx':R.L[(k:Int).toNat]?=some x:=hx
 show zBX _ _ _ _ (.tup [encE bs e,bl false])
 rw[show encV bs (.con m need args)=.ifc 108 (.ref [str m,.slice (zDQ bs args),i64 (need:Int)])from rfl]
 have hal:=zDp bs args
 generalize zDQ bs args=da at *
 rw[<-hal]at hn
 refine zDS func51 rfl ntmps51 results51 rfl ?_
 intro wb St0
 exact yG
end Go.Proofs.YtjcgiiedaccjpaaGreatDoor
namespace Go.Proofs.YtjcgiiedaccjpaaGreatDoor
open _root_.Go.Proofs.Tryz
open Go.Sx Go.Ev
theorem zUJ(v:V): (∃n,v=.num n)\/∀n,v≠.num n:=by cases v <;> first|exact .inl ⟨_,rfl⟩|exact .inr fun n h=>by cases h
theorem zKm: ∀ks:List Tr,ks.length<=szL ks
 |[]=>qAO _
 |t::r=>by
  have:=zKm r
  have:=zDy t
  rw[szL,qAK];omega
attribute [local irreducible] zAQ Program.underlying Ylds zBJ alex zBk zBZ awp zAX FCall zBo zBR zBX zEg zBb zBD zBd zBj zBn zBu zEL zBP VCall
theorem zUR(R:Rn)(s:S)(bs:List Nat){k:Nat}{x:Nd}{ks:List Tr}(need:Nat)(args:List V)(e:Env)(hL:R.L.length<=1000000)(hA:At R.L k (.mk x ks))(k1:x.kind≠21)(k2:x.kind≠22)(k3:x.kind≠23)(h1:args.length=need)(h2:(need:Int)=x.kids)
  (mt:Nat->V->Env->Env×Bool) (ih:∀(i:Nat) v e,args[i]?=some v->zLT R s bs (kidAt k ks i) v e (mt (kidAt k ks i) v e)):zLT R s bs k (.con x.text need args) e (zGx R.pg mt k 0 args e):=by
 have hx:=hA.here
 have hi:=(qAA.1 hx).1
 have hx':R.L[(k:Int).toNat]?=some x:=hx
 have hK:=zC9 R.L (k:Int) oM
 have hkn:=hA.kidn
 have hkl:=hA.kids_len
 have hkg:∀i,i<ks.length->(zB3 R.L (k:Int))[i]?=some ((kidAt k ks i:Nat):Int):=fun i hi=>hA.kids_get hi
 have hkp:∀i,i<ks.length->R.pg.kid k i=kidAt k ks i:=fun i hi=>R.kid_at hA hi
 have hln:ks.length=args.length:=by omega
 have hkb:ks.length<=1000000:=by
  have h3:=hA.len
  rw[Tr.sz]at h3
  have:=zKm ks
  omega
 generalize hr:zGx R.pg mt k 0 args e=r
 show zBX _ _ [.ptr 0 0,.d (i64 (k:Int)),.d (.ifc 108 (.ref [str x.text,.slice (zDQ bs args),i64 (need:Int)])),.d (encE bs e)] _ (.tup [encE bs r.1,bl r.2])
 have hal:=zDp bs args
 have hag:∀(i:Nat) v,args[i]?=some v->(zDQ bs args)[i]?=some (encV bs v):=fun i v h=>by rw[zEl,qAJ,h];rfl
 generalize zDQ bs args=da at *
 have g2:(da.length:Int)=(need:Int):=by omega
 generalize zB3 R.L (k:Int)=kf at *
 refine zDS func51 rfl ntmps51 results51 rfl ?_
 intro wb St0
 repeat' first|apply en_n|apply zAE|apply zAA|apply zAD|apply w0|refine k0ud (hd:=rfl) rfl rfl ?_|exact zDq rfl|exact zFL rfl rfl|(apply zFN;exact rfl;with_reducible exact zEc)|exact ycA zC7 hK|refine aJA ?_|refine aAlA ?_|refine ayA rfl ?_|refine ayQ rfl ?_|apply ay (hd:=rfl)|exact zCo rfl zGJ|refine w1 rfl rfl ?_|(apply gD;exact rfl;exact rfl;all_goals intro hb)|(refine w0' ?_)|refine aStA ?_|refine zAJ rfl ?_|refine zAK rfl ?_|apply zAH|apply zAM|apply zAN|refine awDA ?_|apply en_r|apply eb_n|apply zAO|(apply res2;exact rfl;exact rfl)
 all_goals first|omega|exact absurd rfl hb|skip
 refine zAt (α:=Nat×Env) (fun p=>p.1<=args.length/\zGx R.pg mt k p.1 (args.drop p.1) p.2=r) (fun p=>[(0,.ptr 0 0),(3,.d (encE bs p.2)),(13,.d (.ref [str x.text,.slice da,i64 (need:Int)])),(96,.d (zBq kf)),(97,.d (i64 (ks.length:Int))),(98,.d (i64 (p.1:Int)))]) (fun _=>R.MB s) (fun p=>args.length-p.1) (0,e) ⟨qAO _,hr⟩
  (zAV (Le_cons rfl (Le_cons rfl (Le_cons rfl (Le_cons rfl (Le_d rfl (by rw[<-hkl]) (Le_all rfl)))))) (zAT rfl rfl (zAT rfl rfl zAW)) rfl rfl) ?_
 rintro⟨i,e'⟩ ⟨hi1,hi2⟩
 dsimp only at hi1 hi2 ⊢
 rcases qAF i args.length with hlt|hge
 ·obtain⟨v,hv⟩:∃v,args[i]?=some v:=⟨_,qAB hlt⟩
  have hm:=ih i v e' hv
  have hk':=hkg i oM
  have hda:=hag i v hv
  have hk2:kf[(i:Int).toNat]?=some ((kidAt k ks i:Nat):Int):=hk'
  have hda2:da[(i:Int).toNat]?=some (encV bs v):=hda
  obtain⟨d1,e1⟩:=zDX bs v
  rw[qAW hlt]at hi2
  have hvv:args[i]=v:=by rw[qAB hlt]at hv;injection hv
  rw[hvv,zGx,hkp i oM]at hi2
  rw[show zLT R s bs (kidAt k ks i) v e' (mt (kidAt k ks i) v e')=zBX prog 51 [.ptr 0 0,.d (i64 ((kidAt k ks i:Nat):Int)),.d (encV bs v),.d (encE bs e')] (R.MB s) (.tup [encE bs (mt (kidAt k ks i) v e').1,bl (mt (kidAt k ks i) v e').2])from rfl]at hm
  generalize mt (kidAt k ks i) v e'=q at *
  obtain⟨q1,q2⟩:=q
  dsimp only at hi2 hm
  have hlt':(i:Int)<(ks.length:Int):=by omega
  rw[e1]at hm hda2
  clear ih hag hkg hkp
  skip
  repeat' first|apply en_n|apply zAE|apply zAA|apply zAD|apply w0|exact zDq rfl|(apply zBG;exact rfl;exact rfl;(with_reducible exact zCE);omega;exact hda2;exact rfl;exact dC)|exact qcA [0,1] [] zMw (hm)|refine aJA ?_|refine ayA rfl ?_|refine ayQ rfl ?_|apply ay (hd:=rfl)|refine zBN rfl rfl ?_|refine zAJ rfl ?_|(apply zCd;exact rfl;all_goals intro hb)|apply zAH|apply zAM|apply zAN|apply en_r|apply eb_n|apply eb_r|apply zAO|(apply res2;exact rfl;exact rfl)
  ·have hq:q2=false:=by simpa using hb
   subst hq;rw[if_neg dC]at hi2;subst hi2;rfl
  ·have hq:q2=false:=by simpa using hb
   subst hq;rw[if_neg dC]at hi2;subst hi2;rfl
  all_goals first|omega|skip
  have hq:q2=true:=by simpa using hb
  subst hq
  rw[if_pos rfl]at hi2
  exact⟨(i+1,q1),⟨hlt,hi2⟩,by show args.length-(i+1)<args.length-i;omega,zAV (Le_all rfl) (zAT rfl rfl (zAT rfl rfl zAW)) rfl rfl⟩
 ·have hx:¬(i:Int)<(ks.length:Int):=by omega
  rw[List.drop_eq_nil_of_le hge,zGx]at hi2
  subst hi2
  skip
  exact yh
theorem zQ1(R:Rn)(s:S)(bs:List Nat)(hL:R.L.length<=1000000): ∀(f:Nat) {k:Nat} {t:Tr} (v:V) (e:Env),t.sz<=f->At R.L k t->zLT R s bs k v e (matP R.pg f k v e)
 |0,k,t,_,_,hf,_=>by have:=zDy t;omega
 |f+1,k,.mk x ks,v,e,hf,hA=>by
  have hx:=hA.here
  unfold matP
  rw[R.node_at hx]
  dsimp only
  by_cases h1:x.kind=21
  ·rw[if_pos h1];exact zUS R s bs v e hL hx h1
  rw[if_neg h1]
  by_cases h2:x.kind=22
  ·rw[if_pos h2];exact zUP R s bs v e hL hx h2
  rw[if_neg h2]
  by_cases h3:x.kind=23
  ·rw[if_pos h3]
   rcases zUJ v with⟨n,rfl⟩|hv
   ·exact zUQ R s bs n e hL hx h3
   ·cases v <;> first|exact zOI R s bs _ hv e hL hx h3|exact absurd rfl (hv _)
  rw[if_neg h3]
  have hkn:=hA.kidn
  rcases zb7 v with⟨m,need,args,rfl⟩|hv
  ·dsimp only
   have hw:(x.kids.toNat:Int)=x.kids:=by omega
   by_cases h4:m=x.text/\args.length=need/\need=x.kids.toNat
   ·rw[if_pos h4]
    obtain⟨rfl,h5,h6⟩:=h4
    refine zUR R s bs need args e hL hA h1 h2 h3 h5 oM (matP R.pg f) fun i u e' hu=>?_
    have hil:i<ks.length:=by have:=(qAA.1 hu).1;omega
    have hk:=hA.kid (i:=i) (qAB hil)
    refine zQ1 R s bs hL f u e' ?_ hk
    have h7:=zEE (qBc hil)
    rw[Tr.sz]at hf;omega
   ·rw[if_neg h4]
    exact zOK R s bs m need args e hL hx h1 h2 h3 fun h=>h4 ⟨h.1,by omega,by omega⟩
  ·cases v <;> first|exact zOJ R s bs _ hv e hL hx h1 h2 h3|cases hv
