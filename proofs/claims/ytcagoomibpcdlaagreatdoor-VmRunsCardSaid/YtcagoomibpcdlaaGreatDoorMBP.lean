import Derived.Test.YtcagoomibpcdlaaGreatDoorMBN
import Derived.Test.YtcagoomibpcdlaaGreatDoorMBO
set_option maxHeartbeats 16000000
namespace Go.Proofs.YtcagoomibpcdlaaGreatDoor
open Go.Sx Go.Vm
open _root_.Go.Proofs.Tryz
section
attribute [local irreducible] zAL Program.underlying Ylds zA2 alex zBZ zBP awp zAb zBh zBg zAW zBF zAp zCO zBG zBR zAr zBV zBY zBe zCQ zBM zA8 zBE JFit
theorem zeZ(m:Img)(s:St)(a b x:Int)(h1:1<=s.stack.length)(hn:s.top 0=.n x)(hS:Sml s):
  SpTo m s 16 a b (if x=0 then({ s with stack:=s.stack.take (s.stack.length-1) }:St).goto a else { s with stack:=s.stack.take (s.stack.length-1) }):=by
 intro wb St0
 have hs1:=hS.stack
 have hT:=zFB m s 0 (by omega) hS
 replace hT:zAb prog 31 [smD m s,i64 0] (rfD (s.top 0)):=hT
 rw[hn]at hT
 rw[show rfD (.n x)=.agg [bl true,i64 x]from rfl]at hT
 have e:s.stack.take (s.stack.length-1)=s.stack.take ((s.stack.length:Int)-1).toNat:=by rw[show ((s.stack.length:Int)-1).toNat=s.stack.length-1 by omega]
 have hcp:((s.stack.take ((s.stack.length:Int)-1).toNat).map rfD).length*16<=140737488355328/\((s.stack.take ((s.stack.length:Int)-1).toNat).map rfD).length<=140737488355328:=by rw[qAC,qAG];omega
 rw[e]
 unfold St.goto
 dsimp only
 by_cases hx:x=0
 ·rw[if_pos hx]
  subst hx
  unfold smD at *
  conv=>arg 2;whnf
  skip
  exact yA
 ·rw[if_neg hx]
  unfold smD at *
  conv=>arg 2;whnf
  skip
  exact yA
theorem zN2(m:Img)(s:St)(op a b:Int)(ho:op=11\/op=19)(h1:1<=s.stack.length)(hr:RfIn s.all.length (s.top 0))(hf:s.of (s.top 0) 1=false)(hS:Sml s): SpTo m s op a b (s.stop 4):=by
 intro wb St0
 have hT:=zFB m s 0 (by omega) hS
 replace hT:zAb prog 31 [smD m s,i64 0] (rfD (s.top 0)):=hT
 have hO:=zGR m s (s.top 0) 1 hr hS
 rw[hf]at hO
 have hP:=zDX m s 4
 generalize s.stop 4=s' at *
 generalize s.top 0=r at *
 rw[show rfD r=.agg [bl (rN r),i64 (rV r)]from rfl]at hT hO
 unfold smD at *
 conv=>arg 2;whnf
 rcases ho with h|h <;> subst h
 all_goals
  exact yB
theorem zcj(m:Img)(s:St)(a b:Int)(i:Nat)(o:Thing)(ha:0<=a)(h1:1<=s.stack.length)(ht:s.top 0=.b i)(ho:s.all[i]?=some o)(hk:o.kind=1)(hp:o.parts.length<=1000000)(hS:Sml s):
  SpTo m s 11 a b (if a>=(o.parts.length:Int)then s.stop 4 else s.instead 1 (o.parts.getD a.toNat default)):=by
 intro wb St0
 have hT:=zFB m s 0 (by omega) hS
 replace hT:zAb prog 31 [smD m s,i64 0] (rfD (s.top 0)):=hT
 have hO:=zGR m s (s.top 0) 1 (fun j hj=>by rw[ht]at hj;injection hj with hj;subst hj;exact(qAA.1 ho).1) hS
 rw[ht]at hT hO
 rw[zSW ho hk]at hO
 rw[show rfD (.b i)=.agg [bl false,i64 (i:Int)]from rfl]at hT hO
 have hoo:(s.all.map thD)[((i:Nat):Int).toNat]?=some (.agg [i64 o.kind,i64 o.tag,str o.text,.slice (o.parts.map rfD)]):=by
  show (s.all.map thD)[i]?=_
  rw[qAH,ho];rfl
 by_cases hge:a>=(o.parts.length:Int)
 ·rw[if_pos hge]
  have hP:=zDX m s 4
  generalize s.stop 4=s' at *
  unfold smD at *
  conv=>arg 2;whnf
  skip
  exact yD
 ·rw[if_neg hge]
  obtain⟨q,hq⟩:∃q,o.parts[a.toNat]?=some q:=⟨_,qAB (by omega)⟩
  have hqd:o.parts.getD a.toNat default=q:=by rw[qAD,hq];rfl
  rw[hqd]
  have hqq:(o.parts.map rfD)[a.toNat]?=some (.agg [bl (rN q),i64 (rV q)]):=by rw[qAH,hq];rfl
  have hP:=zEF m s 1 q h1 hS
  replace hP:zAb prog 62 [smD m s,i64 1,.agg [bl (rN q),i64 (rV q)]] (smD m (s.instead 1 q)):=hP
  generalize s.instead 1 q=s' at *
  unfold smD at *
  conv=>arg 2;whnf
  skip
  exact yB
theorem zci(m:Img)(s:St)(a b:Int)(i:Nat)(o:Thing)(h1:1<=s.stack.length)(ht:s.top 0=.b i)(ho:s.all[i]?=some o)(hk:o.kind=1)(hS:Sml s):
  SpTo m s 19 a b (if o.tag≠b then s.goto a else s):=by
 intro wb St0
 have hT:=zFB m s 0 (by omega) hS
 replace hT:zAb prog 31 [smD m s,i64 0] (rfD (s.top 0)):=hT
 have hO:=zGR m s (s.top 0) 1 (fun j hj=>by rw[ht]at hj;injection hj with hj;subst hj;exact(qAA.1 ho).1) hS
 rw[ht]at hT hO
 rw[zSW ho hk]at hO
 rw[show rfD (.b i)=.agg [bl false,i64 (i:Int)]from rfl]at hT hO
 have hoo:(s.all.map thD)[((i:Nat):Int).toNat]?=some (.agg [i64 o.kind,i64 o.tag,str o.text,.slice (o.parts.map rfD)]):=by
  show (s.all.map thD)[i]?=_
  rw[qAH,ho];rfl
 unfold St.goto
 dsimp only
 by_cases hx:o.tag=b
 ·rw[if_neg (fun h=>h hx)]
  unfold smD at *
  conv=>arg 2;whnf
  skip
  exact yA
 ·rw[if_pos hx]
  unfold smD at *
  conv=>arg 2;whnf
  skip
  exact yA
theorem zee(m:Img)(s:St)(a b:Int)(ha:0<=a)(h1:1<=s.stack.length)(hr:RfIn s.all.length (s.top 0))(hp:∀o∈s.all,o.parts.length<=4000)(hS:Sml s):
  SpTo m s 11 a b (if !s.of (s.top 0) 1||decide (a>=((s.obj (s.top 0)).parts.length:Int))then s.stop 4 else s.instead 1 ((s.obj (s.top 0)).parts.getD a.toNat default)):=by
 cases hf:s.of (s.top 0) 1 with
 |false=>exact zN2 m s 11 a b (.inl rfl) h1 hr hf hS
 |true =>
  obtain⟨i,o,e1,e2,e3,e4⟩:=zHO hf hr
  have h:=zcj m s a b i o ha h1 e1 e2 e3 (by have:=hp o (qAF e2);omega) hS
  rw[e4]
  by_cases hge:a>=(o.parts.length:Int)
  ·rw[if_pos hge]at h;simpa[hge]using h
  ·rw[if_neg hge]at h;simpa[hge]using h
theorem zeX(m:Img)(s:St)(a b:Int)(h1:1<=s.stack.length)(hr:RfIn s.all.length (s.top 0))(hS:Sml s):
  SpTo m s 19 a b (if !s.of (s.top 0) 1 then s.stop 4 else if(s.obj (s.top 0)).tag≠b then s.goto a else s):=by
 cases hf:s.of (s.top 0) 1 with
 |false=>exact zN2 m s 19 a b (.inr rfl) h1 hr hf hS
 |true =>
  obtain⟨i,o,e1,e2,e3,e4⟩:=zHO hf hr
  have h:=zci m s a b i o h1 e1 e2 e3 hS
  rw[e4]
  simpa using h
end
section
variable {con:List UInt8->Bool}{m:Img}{A:Nat->Option VS}
structure DBnd(s:St): Prop where
 w0:0<=s.words
 w1:s.words<=1048576
 tr:s.tries.length<=100000
 out:s.out.length<=900000
 all_:s.all.length<=900000
 pin:zJ7 s.all
 txt:∀o∈s.all,o.kind=4\/o.text=[]
theorem zLG{s:St}(h:Lay m A s){r:Rf}(hr:r∈s.roots): RfIn s.all.length r:=fun i e=>h.lt i (h.roots i (e▸hr))
theorem zNB{s:St}(h:Lay m A s){o:Thing}(ho:o∈s.all): Ov m A o:=by
 obtain⟨i,hi⟩:=qA1.1 ho
 have:=h.objs i (qAA.1 hi).1
 unfold zAc at this
 rwa [qAD,hi]at this
theorem zax{s:St}(h:MOk con m A s)(hb:DBnd s): MVal s where
 stack:=by have:=h.high;omega
 calls:=by have:=h.deep;omega
 tries:=by have:=hb.tr;omega
 all_:=by have:=hb.all_;omega
 out:=by have:=hb.out;omega
 th:={ len:=by have:=hb.all_;omega,parts:=hb.pin,few:=fun o ho=>by have:=(zNB h.lay ho).few;omega,
       txt:=fun o ho=>by
        have hO:=zNB h.lay ho
        rcases hb.txt o ho with h4|h4
        ·have:=(hO.txt h4).2.2;omega
        ·rw[h4];exact qAQ _ }
 ro:=fun r hr=>zLG h.lay hr
 few:=by have:=hb.all_;omega
 lens:=⟨by have:=h.high;omega,by have:=h.deep;omega,hb.tr⟩
 wd:=⟨hb.w0,by have:=hb.w1;omega⟩
 us:=⟨by have:=h.lay.used;omega,by have:=h.lay.room;have:=hb.w1;omega⟩
 lv:=by have:=zUp h.lay;have:=h.lay.room;have:=hb.w1;omega
 last:=fun t ht=>by obtain⟨⟨h1,h2⟩,h3,h4⟩:=zUq h t ht;exact⟨h1,h2,h3,h4⟩
 num:=fun v hv=>W_of (h.lay.nums _ (qAm _ hv))
 cell:=fun o ho hk=>by have:=(zNB h.lay ho).cell hk;omega
 ol:=by have:=hb.out;omega
theorem zc5{s t:St}(h:Lay m A s)(g:Gr s t)(hp:zJ7 s.all): zJ7 t.all:=by
 cases g with
 |same e=>rw[e];exact hp
 |more o e hq ht =>
  rw[e]
  intro o' ho r hr i hi
  rw[qAE,qAz]
  rcases qAc.1 ho with h1|h1
  ·have:=hp o' h1 r hr i hi;omega
  ·rw[qAM]at h1;subst h1;subst hi
   have:=zLG h (qAm _ (hq i hr)) i rfl;omega
 |put k o e hq ht =>
  rw[e]
  intro o' ho r hr i hi
  rw[qAZ]
  rcases qBZ ho with h1|h1
  ·exact hp o' h1 r hr i hi
  ·subst h1;subst hi
   rcases hq i hr with h2|h2
   ·rw[qAD]at h2
    cases he:s.all[k]? with
    |none=>rw[he]at h2;exact absurd (show Rf.b i∈([]:List Rf)from h2) List.not_mem_nil
    |some q=>rw[he]at h2;exact hp q (qAF he) _ h2 i rfl
   ·exact zLG h (qAm _ h2) i rfl
theorem zcK{s t:St}(g:Gr s t)(hp:∀o∈s.all,o.kind=4\/o.text=[]): ∀o∈t.all,o.kind=4\/o.text=[]:=by
 cases g with
 |same e=>rw[e];exact hp
 |more o e hq ht =>
  rw[e]
  intro o' ho
  rcases qAc.1 ho with h1|h1
  ·exact hp o' h1
  ·rw[qAM]at h1;subst h1;exact ht
 |put k o e hq ht =>
  rw[e]
  intro o' ho
  rcases qBZ ho with h1|h1
  ·exact hp o' h1
  ·subst h1
   rw[ht.1,ht.2,qAD]
   cases he:s.all[k]? with
   |none=>exact .inr rfl
   |some q=>exact hp q (qAF he)
theorem zdL{s t:St}(g:Gr s t): t.all.length<=s.all.length+1:=by
 cases g with
 |same e=>rw[e];omega
 |more o e hq ht=>rw[e,qAE];exact qAP _
 |put k o e hq ht=>rw[e,qAZ];omega
theorem zUj{s:St}(h:MVal s)(k:Int): MVal (s.goto k) where
 stack:=h.stack
 calls:=h.calls
 tries:=h.tries
 all_:=h.all_
 out:=h.out
 th:=h.th
 ro:=h.ro
 few:=h.few
 lens:=h.lens
 wd:=h.wd
 us:=h.us
 lv:=h.lv
 last:=h.last
 num:=h.num
 cell:=h.cell
 ol:=h.ol
theorem zX5{s:St}(h:MOk con m A s)(hb:DBnd s): zAb prog 29 [smD m s] (smD m (Go.Vm.step shw m s)):=by
 obtain⟨i,v,ts0,ts1,nw⟩:=h.now
 obtain⟨hl,hb0,hf0,hat⟩:=nw.len
 obtain⟨o0,o20,a0,a1,b0,b1,hgo⟩:=nw.ins
 have hV:=zUj (zax h hb) (s.c.at_+1)
 have hM:=hV.toMSml
 have hS:=hV.toSml
 have hi:=zNP nw.at_
 have hlay:=h.lay
 have h4:=h.high
 have hdp:=h.deep
 have hrf:∀k,k<s.stack.length->RfIn s.all.length (s.top k):=fun k hk=>zLG hlay (qAm _ (top_mem s hk))
 have hsp:∀{s':St} {op a b:Int},m.code[s.c.at_.toNat]?=some ⟨op,a,b⟩->SpTo m (s.goto (s.c.at_+1)) op a b s'->zAb prog 29 [smD m s] (smD m s'):=fun hi h'=>zeV m s _ _ _ _ nw.here.at_ hi h.img.code h'
 have hnat:=nw.at_
 unfold Go.Vm.step
 dsimp only
 rw[hi]
 have hfl:=nw.floor
 have hhd:=nw.holds
 obtain⟨op,a,b⟩:=i
 dsimp only at *
 have hna:((a.toNat:Nat):Int)=a:=by omega
 have hnb:((b.toNat:Nat):Int)=b:=by omega
 by_cases c0:op=0
 ·subst c0;rw[if_pos rfl];exact hsp hnat (sp_0 m _ a b)
 rw[if_neg c0]
 by_cases c1:op=1
 ·subst c1;rw[if_pos rfl]
  have e:eff con m ⟨1,a,b⟩ v=⟨0,1,decide (a<m.pool.length),true,false⟩:=by simp[eff]
  rw[e]at hhd
  simp only[decide_eq_true_eq]at hhd
  obtain⟨c,hc⟩:∃c,m.pool[a.toNat]?=some c:=⟨_,qAB (by omega)⟩
  have hcd:m.pool.getD a.toNat default=c:=by rw[qAD,hc];rfl
  have hct:=h.img.thing c (qAF hc)
  rw[hcd]
  exact hsp hnat (sp_1 m _ a b c a0 hc hct.1 hM)
 rw[if_neg c1]
 by_cases c2:op=2
 ·subst c2;rw[if_pos rfl]
  have e:eff con m ⟨2,a,b⟩ v=⟨0,1,decide (a<v.height),true,false⟩:=by simp[eff]
  rw[e]at hhd
  simp only[decide_eq_true_eq]at hhd
  rw[<-hna]at hnat
  exact hsp hnat (sp_2 m _ a.toNat b (by show a.toNat<s.stack.length;omega) hS)
 rw[if_neg c2]
 by_cases c3:op=3
 ·subst c3;rw[if_pos rfl]
  have e:eff con m ⟨3,a,b⟩ v=⟨0,1,decide (v.of>=0)&&decide (a<v.has),true,false⟩:=by simp[eff]
  rw[e]at hhd
  simp only[qAV,decide_eq_true_eq]at hhd
  rcases nw.here.kind with hk|⟨hk,j,f1,f2,f3,f4,f5⟩
  ·omega
  ·obtain⟨o,ho⟩:∃o,s.all[j]?=some o:=⟨_,qAB f2⟩
   have hod:zAc s.all j=o:=by unfold zAc;rw[qAD,ho];rfl
   rw[hod]at f5
   obtain⟨q,hq⟩:∃q,o.parts[a.toNat]?=some q:=⟨_,qAB (by omega)⟩
   have hqd:((s.goto (s.c.at_+1)).obj (s.goto (s.c.at_+1)).c.fun_).parts.getD a.toNat default=q:=by
    show (s.obj s.c.fun_).parts.getD a.toNat default=q
    rw[f1]
    show (zAc s.all j).parts.getD a.toNat default=q
    rw[hod,qAD,hq];rfl
   rw[hqd]
   exact hsp hnat (sp_3 m _ a b j o q a0 f1 ho hq hS)
 rw[if_neg c3]
 by_cases c4:op=4
 ·subst c4;rw[if_pos rfl];exact hsp hnat (sp_4 m _ a b hS)
 rw[if_neg c4]
 by_cases c5:op=5
 ·subst c5;rw[if_pos rfl]
  have e:eff con m ⟨5,a,b⟩ v=⟨a,0,true,true,false⟩:=by simp[eff]
  rw[e]at hfl
  change zA1 v<=v.height-a at hfl
  rw[<-hna]at hnat
  exact hsp hnat (sp_5 m _ a.toNat b (by show a.toNat<=s.stack.length;omega) hS)
 rw[if_neg c5]
 by_cases c6:op=6
 ·subst c6;rw[if_pos rfl]
  have e:eff con m ⟨6,a,b⟩ v=⟨a+1,1,true,true,false⟩:=by simp[eff]
  rw[e]at hfl
  change zA1 v<=v.height-(a+1)at hfl
  rw[<-hna]at hnat
  exact hsp hnat (sp_6 m _ a.toNat b (by show a.toNat+1<=s.stack.length;omega) hS)
 rw[if_neg c6]
 by_cases c7:op=7
 ·subst c7;rw[if_pos rfl]
  have e:eff con m ⟨7,a,b⟩ v=⟨2,1,true,true,false⟩:=by simp[eff]
  rw[e]at hfl
  change zA1 v<=v.height-2 at hfl
  exact hsp hnat (zch m _ false a b (by show 2<=s.stack.length;omega) (hrf 1 (by omega)) ⟨hb0,by show s.c.base<=(s.stack.length:Int);omega⟩ hS)
 rw[if_neg c7]
 by_cases c8:op=8
 ·subst c8;rw[if_pos rfl]
  have e:eff con m ⟨8,a,b⟩ v=⟨2,0,decide (v.of>=0)&&v.tries.isEmpty,false,false⟩:=by simp[eff]
  rw[e]at hfl
  change zA1 v<=v.height-2 at hfl
  exact hsp hnat (zch m _ true a b (by show 2<=s.stack.length;omega) (hrf 1 (by omega)) ⟨hb0,by show s.c.base<=(s.stack.length:Int);omega⟩ hS)
 rw[if_neg c8]
 by_cases c9:op=9
 ·subst c9;rw[if_pos rfl]
  have e:eff con m ⟨9,a,b⟩ v=⟨1,0,decide (v.of>=0)&&v.tries.isEmpty,false,false⟩:=by simp[eff]
  rw[e]at hfl hhd
  change zA1 v<=v.height-1 at hfl
  simp only[qAV,decide_eq_true_eq]at hhd
  obtain⟨cs,c',hcs,_⟩:=nw.here.back hhd.1
  have hlast:(s.goto (s.c.at_+1)).calls.getLast? = some c':=by show s.calls.getLast? = _;rw[hcs];simp
  rw[hlast]
  exact hsp hnat (sp_9 m _ a b c' (by show 1<=s.stack.length;omega) hlast ⟨hb0,by show s.c.base<=(s.stack.length:Int);omega⟩ hS)
 rw[if_neg c9]
 by_cases c10:op=10
 ·subst c10;rw[if_pos rfl]
  have e:eff con m ⟨10,a,b⟩ v=⟨b,1,zGS con m a&&decide (b<=8),true,false⟩:=by simp[eff]
  rw[e]at hfl
  change zA1 v<=v.height-b at hfl
  rw[<-hnb]at hnat
  exact hsp hnat (zQc m _ 10 1 a b.toNat (.inl ⟨rfl,rfl⟩) (by show b.toNat<=s.stack.length;omega) hM)
 rw[if_neg c10]
 by_cases c18:op=18
 ·subst c18;rw[if_pos rfl]
  have e:eff con m ⟨18,a,b⟩ v=⟨b,1,true,true,false⟩:=by simp[eff]
  rw[e]at hfl
  change zA1 v<=v.height-b at hfl
  rw[<-hnb]at hnat
  exact hsp hnat (zQc m _ 18 2 a b.toNat (.inr ⟨rfl,rfl⟩) (by show b.toNat<=s.stack.length;omega) hM)
 rw[if_neg c18]
 by_cases c12:op=12
 ·subst c12;rw[if_pos rfl]
  have e:eff con m ⟨12,a,b⟩ v=⟨takes a,1,decide (a<=13),true,false⟩:=by simp[eff]
  rw[e]at hhd hfl
  simp only[decide_eq_true_eq]at hhd
  change zA1 v<=v.height-takes a at hfl
  exact hsp hnat (zed m _ a b ⟨a0,hhd⟩ (by show (takes a).toNat<=s.stack.length;omega) hV)
 rw[if_neg c12]
 by_cases c17:op=17
 ·subst c17;rw[if_pos rfl];exact hsp hnat (zeY m _ a b hS)
 rw[if_neg c17]
 by_cases c14:op=14
 ·subst c14;rw[if_pos rfl]
  have e:eff con m ⟨14,a,b⟩ v=⟨0,0, !v.tries.isEmpty,true,false⟩:=by simp[eff]
  rw[e]at hhd
  have hne:1<=v.tries.length:=by
   cases ht:v.tries with
   |nil=>rw[ht]at hhd;cases hhd
   |cons _ _=>simp
  have h1:=nw.here.seg.1
  have h2:=nw.here.app
  exact hsp hnat (zeb m _ a b (by show 0<s.tries.length;rw[h2,qAE];omega) hS)
 rw[if_neg c14]
 by_cases c15:op=15
 ·subst c15;rw[if_pos rfl];exact hsp hnat (zea m _ a b)
 rw[if_neg c15]
 by_cases c11:op=11
 ·subst c11;rw[if_pos rfl]
  have e:eff con m ⟨11,a,b⟩ v=⟨1,1,decide (a<=7),true,false⟩:=by simp[eff]
  rw[e]at hfl
  change zA1 v<=v.height-1 at hfl
  exact hsp hnat (zee m _ a b a0 (by show 1<=s.stack.length;omega) (hrf 0 (by omega)) (fun o ho=>(zNB hlay ho).few) hS)
 rw[if_neg c11]
 by_cases c19:op=19
 ·subst c19;rw[if_pos rfl]
  have e:eff con m ⟨19,a,b⟩ v=⟨0,0,decide (v.height>=1)&&zGS con m b,true,true⟩:=by simp[eff]
  rw[e]at hhd
  simp only[qAV,decide_eq_true_eq]at hhd
  exact hsp hnat (zeX m _ a b (by show 1<=s.stack.length;omega) (hrf 0 (by omega)) hS)
 rw[if_neg c19]
 have hone:1<=s.stack.length:=by
  by_cases c13:op=13
  ·have e:eff con m ⟨op,a,b⟩ v=⟨1,0,true,false,false⟩:=by simp[eff,c13]
   rw[e]at hfl
   change zA1 v<=v.height-1 at hfl
   omega
  by_cases c16:op=16
  ·have e:eff con m ⟨op,a,b⟩ v=⟨1,0,true,true,true⟩:=by simp[eff,c16]
   rw[e]at hfl
   change zA1 v<=v.height-1 at hfl
   omega
  have e:eff con m ⟨op,a,b⟩ v=⟨0,0,decide (v.height>=1)&&zIb m b,true,true⟩:=by
   unfold eff
   simp only[c0,c1,c2,c3,c4,c5,c6,c7,c8,c9,c10,c11,c12,c13,c14,c15,c16,c17,c18,c19,if_false]
  rw[e]at hhd
  simp only[qAV,decide_eq_true_eq]at hhd
  omega
 have et:(s.goto (s.c.at_+1)).top 0=s.top 0:=rfl
 rw[et]
 have hop:op=13\/op=16\/op=20:=by omega
 cases hr:s.top 0 with
 |b j =>
  dsimp only
  exact hsp hnat (zTk m _ op a b hop hone (by show rN (s.top 0)=false;rw[hr];rfl) hS)
 |n x =>
  dsimp only
  rcases hop with rfl|rfl|rfl
  ·rw[if_pos rfl];exact hsp hnat (zec m _ a b x hone hr hV.last hS)
  ·rw[if_neg (by decide),if_pos rfl];exact hsp hnat (zeZ m _ a b x hone hr hS)
  ·rw[if_neg (by decide),if_neg (by decide)]
   have e:eff con m ⟨20,a,b⟩ v=⟨0,0,decide (v.height>=1)&&zIb m b,true,true⟩:=by simp[eff]
   rw[e]at hhd
   simp only[qAV,decide_eq_true_eq]at hhd
   have hbl:=zQ1 hhd.2 b0
   obtain⟨c,hc⟩:∃c,m.pool[b.toNat]?=some c:=⟨_,qAB (by omega)⟩
   have hcd:m.pool.getD b.toNat default=c:=by rw[qAD,hc];rfl
   rw[hcd]
   exact hsp hnat (zeW m _ a b x c b0 hc hone hr hS)
end
section
abbrev rowN(l:List Nn): List Ob:=[.buf true 49 4 (l.map nnD)]
abbrev NoTo(m:Img)(s:St)(l l':List Nn)(r:Rf): Prop:=zAW prog 30 [.d (smD m s),.buf 0 l.length,.d (rfD r)] (rowN l) (.buf 0 l'.length) (rowN l')
theorem zND{fx:Nat->Option Nat}{l l':List Nn}{σ:Sl}{η tl:List Ob}{k n:Nat}{xs:List D}(hs:get σ k=.buf 0 n)(he:η=.buf true 49 4 xs::tl)(hx:xs=l'.map nnD)(hn:n=l'.length): zBM #[.tmp k] (.buf 0 l'.length) (anch fx 0 (rowN l) (rowN l')) .ret σ η:=by
 subst he hx hn;exact zDe (zAU (Le_cons hs Le_nil) (zAK rfl rfl zAe) rfl rfl)
attribute [local irreducible] zAL Program.underlying Ylds zA2 alex zBZ zBP awp zAb zBh zBg zAW zBF zAp zCO zBG zBR zAr zBV zBY zBe zCQ zBM zA8 zBE JFit
theorem zSb(m:Img)(s:St)(r:Rf){l:List Nn}(h:4000<l.length): NoTo m s l l r:=by
 have h1:(l.length:Int)>4000:=by omega
 refine zEh func30 rfl ntmps30 results30 rfl rfl rfl ?_
 intro wb St0 X fx
 rw[show rfD r=.agg [bl (rN r),i64 (rV r)]from rfl]
 unfold smD
 exact yA
theorem zUg(m:Img)(s:St){v:Int}{l:List Nn}(h:¬4000<l.length): NoTo m s l (l++[⟨51,[],v,0⟩]) (.n v):=by
 have h1:¬(l.length:Int)>4000:=by omega
 refine zEh func30 rfl ntmps30 results30 rfl rfl rfl ?_
 intro wb St0 X fx
 rw[show rfD (.n v)=.agg [bl true,i64 v]from rfl]
 unfold smD
 repeat' first|apply en_n|apply zAE|apply zAA|apply zAB|apply w0|(refine zBI (cs:=nnC ⟨51,[],v,0⟩) zGa zHj (PD_d rfl rfl (PD_d rfl rfl zCI)) rfl)|(refine zCA zDT zDW zIn rfl rfl (zAN rfl zAH) rfl)|refine aApA (id:=0) ?_ ?_|refine aBoA ?_|refine ayA rfl ?_|refine ayQ rfl ?_|apply ay (hd:=rfl)|refine zAJ rfl ?_|refine zAI rfl ?_|apply zAP|apply zAM|apply en_r
 all_goals first|omega|(simp only[qAN,qAj];omega)|skip
 refine zND rfl rfl ?_ ?_
 ·rw[qAU];rfl
 ·rw[qAE];rfl
theorem zPp(m:Img)(s:St){i:Nat}{o:Thing}{l:List Nn}(h:¬4000<l.length)(ho:s.all[i]?=some o)(k1:o.kind≠1)(_hA:s.all.length<=1000000): NoTo m s l (l++[if o.kind=4 then⟨52,o.text,0,0⟩else⟨54,[],0,0⟩]) (.b i):=by
 have h1:¬(l.length:Int)>4000:=by omega
 have hoo:(s.all.map thD)[((i:Nat):Int).toNat]?=some (.agg [i64 o.kind,i64 o.tag,str o.text,.slice (o.parts.map rfD)]):=by
  show (s.all.map thD)[i]?=_
  rw[qAH,ho];rfl
 refine zEh func30 rfl ntmps30 results30 rfl rfl rfl ?_
 intro wb St0 X fx
 rw[show rfD (.b i)=.agg [bl false,i64 (i:Int)]from rfl]
 unfold smD
 by_cases k4:o.kind=4
 case' pos=>rw[if_pos k4]
 case' neg=>rw[if_neg k4]
 all_goals
  repeat' first|apply en_n|apply zAE|apply zAA|apply zAB|apply w0|(refine zBI (cs:=nnC ⟨52,o.text,0,0⟩) zGa zHj (PD_d rfl rfl (PD_d rfl rfl zCI)) rfl)|(refine zBI (cs:=nnC ⟨54,[],0,0⟩) zGa zHj (PD_d rfl rfl zCI) rfl)|(refine zCA zDT zDW zIn rfl rfl (zAN rfl zAH) rfl)|refine aApA (id:=0) ?_ ?_|refine aJA ?_|refine aBoA ?_|refine aAlA ?_|refine ayA rfl ?_|refine ayQ rfl ?_|apply ay (hd:=rfl)|(refine w0' ?_)|refine aStA ?_|refine zAJ rfl ?_|refine zAI rfl ?_|apply zAP|apply zAM|apply en_r
 all_goals first|omega|(simp only[qAN,qAj];omega)|skip
 all_goals refine zND rfl rfl ?_ ?_
 all_goals first|(rw[qAU];rfl)|(rw[qAE];rfl)
theorem zUh(m:Img)(s:St){i:Nat}{o:Thing}{b:Bool}{x:Int}{t:List UInt8}{l:List Nn}{acc:Nat->List Nn}(h:¬4000<l.length)(ho:s.all[i]?=some o)(k1:o.kind=1)(_hA:s.all.length<=1000000)
  (ht:0<=o.tag) (hk:m.pool[o.tag.toNat]?=some ⟨b,x,t⟩) (h0:acc 0=l++[⟨53,t,0,(o.parts.length:Int)⟩]) (hn:o.parts.length<=4000) (hS:∀j q,o.parts[j]?=some q->NoTo m s (acc j) (acc (j+1)) q):NoTo m s l (acc o.parts.length) (.b i):=by
 have h1:¬(l.length:Int)>4000:=by omega
 have hoo:(s.all.map thD)[((i:Nat):Int).toNat]?=some (.agg [i64 o.kind,i64 o.tag,str o.text,.slice (o.parts.map rfD)]):=by
  show (s.all.map thD)[i]?=_
  rw[qAH,ho];rfl
 have hbd:=(qAA.1 hk).1
 have hat:=zGL (f:=enCn) hk
 refine zEh func30 rfl ntmps30 results30 rfl rfl rfl ?_
 intro wb St0 X fx
 rw[show rfD (.b i)=.agg [bl false,i64 (i:Int)]from rfl]
 unfold smD
 repeat' first|apply en_n|apply zAE|apply zAA|apply zAB|apply w0|(refine zBI (cs:=nnC ⟨53,t,0,(o.parts.length:Int)⟩) zGa zHj (PD_d rfl rfl (PD_d rfl rfl (PD_d rfl rfl zCI))) rfl)|(refine zCA zDT zDW zIn rfl rfl (zAN rfl zAH) rfl)|(refine zCJ (by kernel_rfl) ?_;apply aApp (id:=0) (hd:=rfl) (hro:=rfl);exact rfl;exact rfl;(first|exact zA0 rfl|exact zBX rfl rfl rfl|exact Co_nn rfl);(first|exact rfl|exact(by simp));exact rfl;(with_reducible exact zDT);(with_reducible exact zDW);(with_reducible exact zIo);(with_reducible exact zHc);(first|exact zDc (fun _=>rfl)|exact zCu rfl))|refine aJA ?_|refine aBoA ?_|refine aAlA ?_|refine ayA rfl ?_|refine ayQ rfl ?_|apply ay (hd:=rfl)|(refine w0' ?_)|refine aStA ?_|refine zAI rfl ?_|apply zAO|apply zAP|refine awDA ?_
 all_goals first|omega|(simp only[qAN,qAj];omega)|skip
 refine zBA (α:=Nat) (fun j=>j<=o.parts.length) (fun j=>[(1,.buf 0 (acc j).length),(3,.ptr 1 0),(7,.ptr 3 0),(8,.d (i64 (j:Int)))]) (fun j=>[.buf true 49 4 ((acc j).map nnD),.box (smC m s),.gone,.box [.d (i64 o.kind),.d (i64 o.tag),.d (str o.text),.d (.slice (o.parts.map rfD))]]) (fun j=>o.parts.length-j) 0 (qAQ _) ?_ ?_
 ·rw[h0,qAU,qAE]
  exact zAU (Le_all rfl) (zAK rfl rfl (zD5 rfl zDA (zDV rfl (zD5 rfl zDA zAe)))) rfl rfl
 ·intro j hj
  rcases qAR j o.parts.length with hlt|hge
  ·obtain⟨q,hq⟩:∃q,o.parts[j]?=some q:=⟨_,qAB hlt⟩
   have hSj:=hS j q hq
   have hqq:(o.parts.map rfD)[((j:Nat):Int).toNat]?=some (.agg [bl (rN q),i64 (rV q)]):=by
    show (o.parts.map rfD)[j]?=_
    rw[qAH,hq];rfl
   have hc:(j:Int)<o.parts.length:=by omega
   unfold NoTo at hSj
   rw[show rfD q=.agg [bl (rN q),i64 (rV q)]from rfl]at hSj
   unfold smD at hSj
   skip
   repeat' first|apply en_n|apply zAE|apply zAA|apply zAB|apply w0|(refine zCJ (by kernel_rfl) ?_;refine zHi [0] zIi (hSj) (SArgs_all rfl) rfl rfl (by decide) rfl rfl rfl rfl rfl rfl ?_)|refine aJA ?_|refine ayA rfl ?_|refine ayQ rfl ?_|apply ay (hd:=rfl)|refine zBp rfl rfl ?_|refine zAJ rfl ?_|apply zAO|apply zAP|refine awDA ?_|apply eb_n
   all_goals first|omega|skip
   exact⟨j+1,hlt,by omega,zAU (Le_cons rfl (Le_cons rfl (Le_cons rfl (Le_d rfl (by push_cast;rfl) Le_nil)))) (zA4 _) rfl rfl⟩
  ·have e:j=o.parts.length:=by omega
   subst e
   have hc:¬(o.parts.length:Int)<o.parts.length:=by omega
   repeat' first|apply en_n|apply zAE|apply zAA|apply zAB|apply w0|refine ayA rfl ?_|refine ayQ rfl ?_|refine zAI rfl ?_|apply zAM|apply zBH|apply en_e|apply eb_e
   all_goals first|omega|skip
   exact zND rfl rfl rfl rfl
theorem zO0{m:Img}{A:Nat->Option VS}{s:St}(h:Lay m A s)(hA:s.all.length<=1000000): ∀(f:Nat) (l:List Nn) (r:Rf),rkR r<f->RfIn s.all.length r->NoTo m s l (shN m s.all f l r) r
 |0,_,_,hf,_=>absurd hf (by omega)
 |f+1,l,r,hf,hv=>by
  unfold shN
  by_cases h4:4000<l.length
  ·rw[if_pos h4];exact zSb m s r h4
  rw[if_neg h4]
  cases r with
  |n v=>exact zUg m s h4
  |b i =>
   have hi:=hv i rfl
   obtain⟨o,ho⟩:∃o,s.all[i]?=some o:=⟨_,qAB hi⟩
   have hoa:zAc s.all i=o:=by unfold zAc;rw[qAD,ho];rfl
   have hO:=h.objs i hi
   have hold:=h.old i hi
   rw[hoa]at hO hold
   dsimp only
   rw[hoa]
   by_cases k1':o.kind=1
   ·rw[if_neg (by omega),if_pos k1']
    have hlt:=hO.con k1'
    have htg:=hO.tag
    obtain⟨c,hc⟩:∃c,m.pool[o.tag.toNat]?=some c:=⟨_,qAB (by omega)⟩
    have hcd:m.pool.getD o.tag.toNat default=c:=by rw[qAD,hc];rfl
    rw[hcd]
    have hC:=zUh m s (l:=l) (acc:=fun k=>(o.parts.take k).foldl (shN m s.all f) (l++[⟨53,c.text,0,o.parts.length⟩])) h4 ho k1' hA htg.1 (show m.pool[o.tag.toNat]?=some ⟨c.isText,c.num,c.text⟩from hc) rfl hO.few (fun k q hq=>?_)
    ·rw[qAw]at hC
     exact hC
    ·have hk:=(qAA.1 hq).1
     have e:o.parts.take (k+1)=o.parts.take k++[q]:=by
      rw[List.take_succ_eq_append_getElem hk,(qAA.1 hq).2]
     show NoTo m s _ ((o.parts.take (k+1)).foldl (shN m s.all f) _) q
     rw[e,List.foldl_append,List.foldl_cons,List.foldl_nil]
     have hm:=qAF hq
     refine zO0 h hA f _ q ?_ ?_
     ·cases q with
      |n v=>simp only[rkR]at *;omega
      |b j=>have:=hold k1' j hm;simp only[rkR]at *;omega
     ·intro j e;subst e
      have:=hold k1' j hm;omega
   ·have:=zPp m s h4 ho k1' hA
    rw[if_neg k1']
    by_cases k4:o.kind=4
    ·rw[if_pos k4]at this ⊢;exact this
    ·rw[if_neg k4]at this ⊢;exact this
