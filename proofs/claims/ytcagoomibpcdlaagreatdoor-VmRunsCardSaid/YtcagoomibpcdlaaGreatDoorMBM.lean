import Derived.Test.YtcagoomibpcdlaaGreatDoorMBS
set_option maxHeartbeats 16000000
namespace Go.Proofs.YtcagoomibpcdlaaGreatDoor
open Go.Sx Go.Vm
open _root_.Go.Proofs.Tryz
section
attribute [local irreducible] zAL Program.underlying Ylds zA2 alex zBZ zBP awp zAb zBh zBg zAW zBF zAp zCO zBG zBR zAr zBV zBY zBe zCQ zBM zA8 zBE JFit
theorem zc1(m:Img)(s:St)(i:Nat)(a:Rf)(o:Thing)(ho:s.all[i]?=some o)(hk:o.kind=4)(_ht:o.text.length<=1000000)(h1:1<=s.stack.length)(hS:Sml s): PrTo m s 8 (.b i) a (s.numI 1 (o.text.length:Int)):=by
 intro wb St0
 have hi:=(qAA.1 ho).1
 have hO:=zGR m s (.b i) 4 (fun j hj=>by injection hj with hj;omega) hS
 have hf:s.of (.b i) 4=true:=by show decide ((s.all.getD i default).kind=4)=true;rw[qAD,ho];exact decide_eq_true hk
 rw[hf]at hO
 have hN:=zNT m s 1 (o.text.length:Int) h1 hS
 replace hN:zAb prog 109 [smD m s,i64 1,i64 (o.text.length:Int)] (smD m (s.numI 1 (o.text.length:Int))):=hN
 have hoo:s.all[((i:Nat):Int).toNat]?=some o:=ho
 generalize s.numI 1 (o.text.length:Int)=s' at *
 unfold smD rfD at *
 conv=>arg 2;whnf
 dsimp only[apB,rN,rV]at *
 skip
 exact yB
theorem zcz(m:Img)(s:St)(i:Nat)(a:Rf)(o:Thing)(ho:s.all[i]?=some o)(hk:o.kind=4)(h1:1<=s.stack.length)(hS:Sml s)(hS2:Sml (s.put o.text)): PrTo m s 13 (.b i) a ((s.put o.text).numI 1 0):=by
 intro wb St0
 have hi:=(qAA.1 ho).1
 have hO:=zGR m s (.b i) 4 (fun j hj=>by injection hj with hj;omega) hS
 have hf:s.of (.b i) 4=true:=by show decide ((s.all.getD i default).kind=4)=true;rw[qAD,ho];exact decide_eq_true hk
 rw[hf]at hO
 have hP:=zVL m s o.text hS
 have hN:=zNT m (s.put o.text) 1 0 h1 hS2
 replace hN:zAb prog 109 [smD m (s.put o.text),i64 1,i64 0] (smD m ((s.put o.text).numI 1 0)):=hN
 have hoo:s.all[((i:Nat):Int).toNat]?=some o:=ho
 generalize (s.put o.text).numI 1 0=s' at *
 generalize s.put o.text=s'' at *
 unfold smD rfD at *
 conv=>arg 2;whnf
 dsimp only[apB,rN,rV]at *
 skip
 exact yB
theorem zai(m:Img)(s:St)(x:Int)(a:Rf)(hx:W x=x)(hS:Sml s): PrTo m s 12 (.n x) a (s.put (shw x)):=by
 intro wb St0
 have hW:=zXJ x
 rw[hx]at hW
 have hP:=zVL m s (shw x) hS
 generalize s.put (shw x)=s' at *
 generalize shw x=t at *
 unfold smD at *
 conv=>arg 2;whnf
 dsimp only[apB,rN,rV]at *
 skip
 exact yI
theorem zSP(m:Img)(s:St)(i:Nat)(a:Rf): PrTo m s 12 (.b i) a (s.stop 4):=by
 intro wb St0
 have hT:=zDX m s 4
 generalize s.stop 4=s' at *
 unfold smD at *
 conv=>arg 2;whnf
 dsimp only[apB,rN,rV]at *
 skip
 exact yB
theorem zJt(m:Img)(s:St)(p:Int)(hp:p=10\/p=11)(f a:Rf)(hr:RfIn s.all.length f)(hS:Sml s)(hf:s.of f 3=false): PrTo m s p f a (s.stop 4):=by
 intro wb St0
 have hT:=zDX m s 4
 have hO:=zGR m s f 3 hr hS
 rw[hf]at hO
 generalize s.stop 4=s' at *
 unfold smD rfD at *
 conv=>arg 2;whnf
 rcases hp with h|h <;> subst h
 all_goals
  exact yB
theorem zSW{s:St}{i:Nat}{o:Thing}{k:Int}(ho:s.all[i]?=some o)(hk:o.kind=k): s.of (.b i) k=true:=by
 show decide ((s.all.getD i default).kind=k)=true
 rw[qAD,ho];exact decide_eq_true hk
theorem zc3(m:Img)(s:St)(i:Nat)(a:Rf)(o:Thing)(q:Rf)(ho:s.all[i]?=some o)(hk:o.kind=3)(hq:o.parts[0]?=some q)(h1:1<=s.stack.length)(hS:Sml s): PrTo m s 10 (.b i) a (s.instead 1 q):=by
 intro wb St0
 have hi:=(qAA.1 ho).1
 have hO:=zGR m s (.b i) 3 (fun j hj=>by injection hj with hj;omega) hS
 rw[zSW ho hk]at hO
 have hN:=zEF m s 1 q h1 hS
 replace hN:zAb prog 62 [smD m s,i64 1,rfD q] (smD m (s.instead 1 q)):=hN
 have hoo:(s.all.map thD)[((i:Nat):Int).toNat]?=some (.agg [i64 o.kind,i64 o.tag,str o.text,.slice (o.parts.map rfD)]):=by
  show (s.all.map thD)[i]?=_
  rw[qAH,ho];rfl
 have hqq:(o.parts.map rfD)[(0:Int).toNat]?=some (.agg [bl (rN q),i64 (rV q)]):=by
  show (o.parts.map rfD)[0]?=_
  rw[qAH,hq];rfl
 generalize s.instead 1 q=s' at *
 rw[show rfD q=.agg [bl (rN q),i64 (rV q)]from rfl]at hN
 rw[show rfD (.b i)=.agg [bl false,i64 (i:Int)]from rfl]at hO
 unfold smD at *
 conv=>arg 2;whnf
 dsimp only[apB,rN,rV]at *
 skip
 exact yB
theorem zcy(m:Img)(s:St)(i:Nat)(a:Rf)(o:Thing)(ho:s.all[i]?=some o)(hk:o.kind=3)(hq:0<o.parts.length)(hp:o.parts.length<=1000000)(h2:2<=s.stack.length)(hS:Sml s): PrTo m s 11 (.b i) a (({ s with all:=s.all.set i { o with parts:=o.parts.set 0 a } }:St).numI 2 0):=by
 intro wb St0
 have hi:=(qAA.1 ho).1
 have hO:=zGR m s (.b i) 3 (fun j hj=>by injection hj with hj;omega) hS
 rw[zSW ho hk]at hO
 have hT:=zbY s.words s.used s.all i 0 a o ho hq hS.all_ hp
 have hN:=zNT m { s with all:=s.all.set i { o with parts:=o.parts.set 0 a } } 2 0 h2 ⟨hS.stack,hS.calls,hS.tries,by rw[qAZ];exact hS.all_,hS.out⟩
 replace hN:zAb prog 109 [smD m { s with all:=s.all.set i { o with parts:=o.parts.set 0 a } },i64 2,i64 0] (smD m (({ s with all:=s.all.set i { o with parts:=o.parts.set 0 a } }:St).numI 2 0)):=hN
 replace hT:zAb prog 111 [hpD s.words s.used s.all,i64 (i:Int),i64 0,rfD a] (hpD s.words s.used (s.all.set i { o with parts:=o.parts.set 0 a })):=hT
 generalize ({ s with all:=s.all.set i { o with parts:=o.parts.set 0 a } }:St).numI 2 0=s' at *
 rw[show rfD (.b i)=.agg [bl false,i64 (i:Int)]from rfl]at hO
 rw[show rfD a=.agg [bl (rN a),i64 (rV a)]from rfl]at hT
 unfold smD hpD at *
 dsimp only at hN
 generalize s.all.set i { o with parts:=o.parts.set 0 a }=all' at *
 conv=>arg 2;whnf
 dsimp only[apB,rN,rV]at *
 skip
 exact yB
theorem zc0(m:Img)(s:St)(f a:Rf)(h1:1<=s.stack.length)(hM:MSml s): PrTo m s 9 f a (s.block ⟨3,0,[],s.partsT 1⟩ 1):=by
 intro wb St0
 have hS:=hM.toSml
 have hP:=zOz m s 1 h1 hS
 replace hP:zAb prog 64 [smD m s,i64 1] (.slice ((s.partsT 1).map rfD)):=hP
 have hB:=zJb m s ⟨3,0,[],s.partsT 1⟩ 1 hM h1 (by show (0:Nat)<=_;omega) (by show (s.stack.drop _).length<=_;have:=hS.stack;rw[qAd];omega)
 replace hB:zAb prog 59 [smD m s,.agg [i64 3,i64 0,str [],.slice ((s.partsT 1).map rfD)],i64 1] (smD m (s.block ⟨3,0,[],s.partsT 1⟩ 1)):=hB
 generalize s.block ⟨3,0,[],s.partsT 1⟩ 1=s' at *
 generalize s.partsT 1=ps at *
 unfold smD at *
 conv=>arg 2;whnf
 dsimp only[apB]at *
 skip
 exact yB
theorem zOO(m:Img)(s:St)(f a:Rf)(hr:RfIn s.all.length f)(hr2:RfIn s.all.length a)(hS:Sml s)(hf:s.of f 4=false\/s.of a 4=false): PrTo m s 7 f a (s.stop 4):=by
 intro wb St0
 have hT:=zDX m s 4
 have hO:=zGR m s f 4 hr hS
 have hO2:=zGR m s a 4 hr2 hS
 generalize s.of f 4=bf at *
 generalize s.of a 4=ba at *
 generalize s.stop 4=s' at *
 unfold smD rfD at *
 conv=>arg 2;whnf
 cases bf <;> cases ba
 all_goals first|(exfalso;rcases hf with h|h <;> cases h;done)|skip
 all_goals
  exact yB
theorem zc4(m:Img)(s:St)(i j:Nat)(o q:Thing)(ho:s.all[i]?=some o)(hq:s.all[j]?=some q)(hk:o.kind=4)(hk2:q.kind=4)(hl:o.text.length<=1000000)(hl2:q.text.length<=1000000)(h2:2<=s.stack.length)(hL:zL5 s)(hM:MSml s):
  PrTo m s 7 (.b i) (.b j) (if(o.text++q.text).length>200 then s.raise (-3)else s.block (zB6 (o.text++q.text)) 2):=by
 intro wb St0
 have hS:=hM.toSml
 have hi:=(qAA.1 ho).1
 have hj:=(qAA.1 hq).1
 have hO:=zGR m s (.b i) 4 (fun k hk=>by injection hk with hk;omega) hS
 have hO2:=zGR m s (.b j) 4 (fun k hk=>by injection hk with hk;omega) hS
 rw[zSW ho hk]at hO
 rw[zSW hq hk2]at hO2
 have hR:=zLj m s (-3) hL hS
 have hll:(o.text++q.text).length=o.text.length+q.text.length:=qAE
 have hX:=zRP (o.text++q.text)
 have hB:(o.text++q.text).length<=200->zAb prog 59 [smD m s,thD (zB6 (o.text++q.text)),i64 2] (smD m (s.block (zB6 (o.text++q.text)) 2)):=fun h=>zJb m s (zB6 (o.text++q.text)) 2 hM h2 (by show (o.text++q.text).length<=_;omega) (by show (0:Nat)<=_;omega)
 have hoi:(s.all.map thD)[((i:Nat):Int).toNat]?=some (.agg [i64 o.kind,i64 o.tag,str o.text,.slice (o.parts.map rfD)]):=by
  show (s.all.map thD)[i]?=_
  rw[qAH,ho];rfl
 have hoj:(s.all.map thD)[((j:Nat):Int).toNat]?=some (.agg [i64 q.kind,i64 q.tag,str q.text,.slice (q.parts.map rfD)]):=by
  show (s.all.map thD)[j]?=_
  rw[qAH,hq];rfl
 rw[show rfD (.b i)=.agg [bl false,i64 (i:Int)]from rfl]at hO
 rw[show rfD (.b j)=.agg [bl false,i64 (j:Int)]from rfl]at hO2
 by_cases hlt:(o.text++q.text).length>200
 ·rw[if_pos hlt]
  have hgt:((o.text++q.text).length:Int)>200:=by omega
  clear hB hX
  generalize s.raise (-3)=s' at *
  unfold smD at *
  conv=>arg 2;whnf
  dsimp only[apB,rN,rV]at *
  skip
  exact yA
 ·rw[if_neg hlt]
  have hgt:¬((o.text++q.text).length:Int)>200:=by omega
  have hX:=hX (by omega)
  have hB:=hB (by omega)
  clear hR
  generalize s.block (zB6 (o.text++q.text)) 2=s' at *
  generalize zB6 (o.text++q.text)=th at *
  rw[show thD th=.agg [i64 th.kind,i64 th.tag,str th.text,.slice (th.parts.map rfD)]from rfl]at hX hB
  unfold smD at hB hO hO2 ⊢
  conv=>arg 2;whnf
  dsimp only[apB,rN,rV]at *
  skip
  exact yA
end
section
structure MVal(s:St): Prop extends MSml s where
 last:zL5 s
 num:∀v,Rf.n v∈s.stack->W v=v
 cell:∀o∈s.all,o.kind=3->0<o.parts.length
 ol:s.out.length+1<=1000000
theorem top_mem(s:St){k:Nat}(h:k<s.stack.length): s.top k∈s.stack:=by
 unfold St.top
 rw[qAD,qAB (by omega)]
 exact qA8 _
theorem zHO{s:St}{f:Rf}{k:Int}(h:s.of f k=true)(hr:RfIn s.all.length f): ∃i o,f=.b i/\s.all[i]?=some o/\o.kind=k/\s.obj f=o:=by
 cases f with
 |n v=>cases h
 |b i =>
  have hi:=hr i rfl
  refine⟨i,s.all[i],rfl,qAB hi,?_,?_⟩
  ·have h:decide ((s.all.getD i default).kind=k)=true:=h
   rw[qAD,qAB hi]at h
   exact of_decide_eq_true h
  ·show s.all.getD i default=_
   rw[qAD,qAB hi];rfl
theorem zc2(m:Img)(s:St)(p:Int)(hp:0<=p/\p<=13)(h2:(takes p).toNat<=s.stack.length)(hV:MVal s): PrTo m s p (s.top ((takes p).toNat-1)) (s.top 0) (s.prim shw p):=by
 have hS:=hV.toSml
 have ht:takes p=1\/takes p=2:=by unfold takes;repeat' split <;> omega
 have hro:∀r∈s.stack,RfIn s.all.length r:=fun r hr=>hV.ro r (qAm _ hr)
 have m1:=top_mem s (k:=(takes p).toNat-1) (by omega)
 have m0:=top_mem s (k:=0) (by omega)
 have r1:=hro _ m1
 have r0:=hro _ m0
 have htk:p<8\/p=11->2<=s.stack.length:=fun h=>by
  have:takes p=2:=by unfold takes;rw[if_neg (by omega),if_pos h]
  omega
 have ht1:1<=s.stack.length:=by omega
 unfold St.prim
 dsimp only
 generalize s.top ((takes p).toNat-1)=f at *
 generalize s.top 0=a at *
 by_cases h7:p<7
 ·rw[if_pos h7]
  cases f with
  |n x=>cases a with
   |n y=>exact zPm m s p ⟨hp.1,h7⟩ x y (htk (by omega)) hV.last hS (hV.num x m1) (hV.num y m0)
   |b j=>exact zMN m s p h7 _ _ (.inr rfl)
  |b i=>exact zMN m s p h7 _ _ (.inl rfl)
 rw[if_neg h7]
 by_cases e7:p=7
 ·subst e7
  rw[if_pos rfl]
  cases hf:s.of f 4 with
  |false=>exact zOO m s f a r1 r0 hS (.inl hf)
  |true=>cases hb:s.of a 4 with
   |false=>exact zOO m s f a r1 r0 hS (.inr hb)
   |true =>
    obtain⟨i,o,hi,ho,hk,hg⟩:=zHO hf r1
    obtain⟨j,q,hj,hq,hk2,hg2⟩:=zHO hb r0
    rw[hg,hg2]
    subst hi;subst hj
    exact zc4 m s i j o q ho hq hk hk2 (hV.th.txt o (qAF ho)) (hV.th.txt q (qAF hq)) (htk (by omega)) hV.last hV.toMSml
 rw[if_neg e7]
 by_cases e8:p=8
 ·subst e8
  rw[if_pos rfl]
  cases hf:s.of f 4 with
  |false=>exact zMM m s 8 (.inl rfl) f a r1 hS hf
  |true =>
   obtain⟨i,o,hi,ho,hk,hg⟩:=zHO hf r1
   rw[hg]
   subst hi
   exact zc1 m s i a o ho hk (hV.th.txt o (qAF ho)) ht1 hS
 rw[if_neg e8]
 by_cases e13:p=13
 ·subst e13
  rw[if_pos rfl]
  cases hf:s.of f 4 with
  |false=>exact zMM m s 13 (.inr rfl) f a r1 hS hf
  |true =>
   obtain⟨i,o,hi,ho,hk,hg⟩:=zHO hf r1
   rw[hg]
   subst hi
   exact zcz m s i a o ho hk ht1 hS ⟨hS.stack,hS.calls,hS.tries,hS.all_,by show (s.out++[o.text]).length<=_;rw[qAE];exact hV.ol⟩
 rw[if_neg e13]
 by_cases e9:p=9
 ·subst e9
  rw[if_pos rfl]
  exact zc0 m s f a ht1 hV.toMSml
 rw[if_neg e9]
 by_cases e10:p=10
 ·subst e10
  rw[if_pos rfl]
  cases hf:s.of f 3 with
  |false=>exact zJt m s 10 (.inl rfl) f a r1 hS hf
  |true =>
   obtain⟨i,o,hi,ho,hk,hg⟩:=zHO hf r1
   rw[hg]
   subst hi
   have hc:=hV.cell o (qAF ho) hk
   have hq:o.parts[0]?=some (o.parts.getD 0 default):=by rw[qAD,qAB hc];rfl
   exact zc3 m s i a o _ ho hk hq ht1 hS
 rw[if_neg e10]
 by_cases e11:p=11
 ·subst e11
  rw[if_pos rfl]
  cases f with
  |n x=>exact zJt m s 11 (.inr rfl) _ a r1 hS rfl
  |b i =>
   have hi:=r1 i rfl
   obtain⟨o,ho⟩:∃o,s.all[i]?=some o:=⟨_,qAB hi⟩
   have hg:s.all.getD i default=o:=by rw[qAD,ho];rfl
   dsimp only
   rw[hg]
   by_cases hk:o.kind=3
   ·rw[if_neg (by simp[hk])]
    have hom:=qAF ho
    exact zcy m s i a o ho hk (hV.cell o hom hk) (hV.th.few o hom) (htk (.inr rfl)) hS
   ·rw[if_pos hk]
    exact zJt m s 11 (.inr rfl) _ a r1 hS (by show decide ((s.all.getD i default).kind=3)=false;rw[hg];exact decide_eq_false hk)
 rw[if_neg e11]
 have e12:p=12:=by omega
 subst e12
 cases f with
 |n x=>exact zai m s x a (hV.num x m1) hS
 |b i=>exact zSP m s i a
theorem zX6(m:Img)(s:St)(p:Int)(hp:0<=p/\p<=13)(h2:(takes p).toNat<=s.stack.length)(hV:MVal s): zAb prog 65 [smD m s,i64 p] (smD m (s.prim shw p)):=by
 refine zB0 func65 rfl ntmps65 results65 rfl ?_
 intro wb St0
 exact zaj m s p hp h2 hV.toSml wb St0 _ (zc2 m s p hp h2 hV wb St0)
abbrev spB(m:Img)(s:St)(op a b:Int): List Ob:=[.box (smC m s),.box smZ,.box [.d (i64 op),.d (i64 a),.d (i64 b)]]
abbrev spS: Sl:=[(1,.ptr 0 0),(2,.ptr 1 0),(3,.ptr 2 0)]
abbrev SpTo(m:Img)(s:St)(op a b:Int)(s':St): Prop:=∀(wb:World) (St0:Stab),
 awp ⟨prog,343,wb,St0,fun _=>False,0⟩ (zEX 3 (zCw Tryz.f29)) (zA8 prog #[.cell 2 84] (smD m s')) spS (spB m s op a b)
attribute [local irreducible] zAL Program.underlying Ylds zA2 alex zBZ zBP awp zAb zBh zBg zAW zBF zAp zCO zBG zBR zAr zBV zBY zBe zCQ zBM zA8 zBE JFit
theorem zeV(m:Img)(s s':St)(op a b:Int)(h0:0<=s.c.at_)(hi:m.code[s.c.at_.toNat]?=some ⟨op,a,b⟩)(hl:m.code.length<=20000)(h:SpTo m (s.goto (s.c.at_+1)) op a b s'): zAb prog 29 [smD m s] (smD m s'):=by
 refine zB0 func29 rfl ntmps29 results29 rfl ?_
 intro wb St0
 have h:=h wb St0
 have hlt:=(qAA.1 hi).1
 generalize smD m s'=D' at *
 unfold smD
 conv at h=>arg 2;whnf
 conv=>arg 2;whnf
 skip
 repeat' first|(refine zHu (id:=3) ?_)|apply en_n|apply zAE|apply zAA|apply zAB|apply w0|refine aJA ?_|refine aBoA ?_|refine aAlA ?_|refine ayA rfl ?_|apply ay (hd:=rfl)|refine zBp rfl rfl ?_|(refine w0' ?_)|refine aStA ?_
 all_goals first|omega|skip
 refine Stop.go ?_
 refine zBW ?_ h
 exact zAU (Le_all rfl) (zAK rfl rfl (zD5 rfl zDA (zD5 rfl zDA zAe))) rfl rfl
theorem sp_0(m:Img)(s:St)(a b:Int): SpTo m s 0 a b (s.stop 1):=by
 intro wb St0
 have hT:=zDX m s 1
 generalize s.stop 1=s' at *
 unfold smD at *
 conv=>arg 2;whnf
 skip
 exact yB
