import Derived.Test.YtcagoomibpcdlaaGreatDoorMCG
set_option maxHeartbeats 16000000
namespace Go.Proofs.YtcagoomibpcdlaaGreatDoor
open Go.Sx Go.Vm
section
open _root_.Go.Proofs.Tryz
variable {m:Img}{A:Nat->Option VS}
theorem zUR(s:St){n:Nat}(h:n<=s.stack.length): (s.partsT n).length=n:=by unfold St.partsT;rw[qAd];omega
theorem zay(s:St){k tag:Int}(hk:k≠4){n:Nat}(h:n<=s.stack.length): (⟨k,tag,[],s.partsT n⟩:Thing).size=n:=by
 unfold Thing.size Thing.need
 rw[if_neg hk]
 show 1+(s.partsT n).length-1=n
 rw[zUR s h];omega
theorem zUo{s:St}(h:Lay m A s)(hw0:0<=s.words)(hw:s.words<=1048576)(hl:s.stack.length<=4000/\s.calls.length<=200000/\s.tries.length<=200000)(oth:List Nat){k tag:Int}(hk:1<=k/\k<=3)(ht:0<=tag/\tag<=1048576){n:Nat}(hn:n<=s.stack.length):
  ∃oth',zAW prog 46 [.ptr 0 0,.d (i64 k),.d (i64 tag),.d (i64 (n:Int))] (MX m (rawS s oth)) .top (MX m (rawS (s.block ⟨k,tag,[],s.partsT n⟩ n) oth')):=by
 have hz:=zay s (k:=k) (tag:=tag) (by omega) hn
 exact zbh h hw0 hw hl oth ⟨k,tag,[],s.partsT n⟩ ⟨by show 1<=k/\k<=4;omega,ht,by rw[hz];omega⟩ hk.2 n hz hn rfl
theorem zeU{s:St}(h:Lay m A s)(hw0:0<=s.words)(hw:s.words<=1048576)(hl:s.stack.length<=4000/\s.calls.length<=200000/\s.tries.length<=200000)(oth:List Nat){a b:Int}(hc:InsAt m (rawS s oth) ⟨10,a,b⟩)(ha:0<=a/\a<=1048576)(hb:0<=b)(hn:b<=s.stack.length):
  ∃oth',zCR m s ((fwd s).block ⟨1,a,[],(fwd s).partsT b.toNat⟩ b.toNat) oth oth':=by
 obtain⟨oth',hR⟩:=zUo (s:=fwd s) (zH4 h) hw0 hw hl oth (k:=1) (tag:=a) (by omega) ha (n:=b.toNat) (by show _<=s.stack.length;omega)
 rw[qA0 hb]at hR
 exact⟨oth',zaE m (rawS s oth) _ hc hR⟩
theorem zeN{s:St}(h:Lay m A s)(hw0:0<=s.words)(hw:s.words<=1048576)(hl:s.stack.length<=4000/\s.calls.length<=200000/\s.tries.length<=200000)(oth:List Nat){a b:Int}(hc:InsAt m (rawS s oth) ⟨18,a,b⟩)(ha:0<=a/\a<=1048576)(hb:0<=b)(hn:b<=s.stack.length):
  ∃oth',zCR m s ((fwd s).block ⟨2,a,[],(fwd s).partsT b.toNat⟩ b.toNat) oth oth':=by
 obtain⟨oth',hR⟩:=zUo (s:=fwd s) (zH4 h) hw0 hw hl oth (k:=2) (tag:=a) (by omega) ha (n:=b.toNat) (by show _<=s.stack.length;omega)
 rw[qA0 hb]at hR
 exact⟨oth',zZ6 m (rawS s oth) _ hc hR⟩
theorem zSL(shw:Int->List UInt8){s:St}(h:Lay m A s)(hw0:0<=s.words)(hw:s.words<=1048576)(hl:s.stack.length<=4000/\s.calls.length<=200000/\s.tries.length<=200000)(oth:List Nat)(h1:1<=s.stack.length): ∃oth',zIm m s (s.prim shw 9) oth oth' 9:=by
 obtain⟨oth',hR⟩:=zUo h hw0 hw hl oth (k:=3) (tag:=0) (by omega) (by omega) (n:=1) h1
 exact⟨oth',zXN m _ _ hR⟩
end
section
variable {m:Img}{A:Nat->Option VS}
theorem st_1{s:St}(h:Lay m A s)(hi:ImgOk m)(hw0:0<=s.words)(hw:s.words<=1048576)(hl:s.stack.length<=4000/\s.calls.length<=200000/\s.tries.length<=200000)(oth:List Nat){a b:Int}(hc:InsAt m (rawS s oth) ⟨1,a,b⟩)(ha:0<=a)(hp:a<m.pool.length):
  ∃oth',zCR m s (if(m.pool.getD a.toNat default).isText then(fwd s).block (zB6 (m.pool.getD a.toNat default).text) 0 else(fwd s).push (numR (m.pool.getD a.toNat default).num)) oth oth':=by
 have hlt:a.toNat<m.pool.length:=by omega
 have hg:m.pool[a.toNat]?=some (m.pool.getD a.toNat default):=by rw[qAD,qAB hlt];rfl
 have hth:=hi.thing _ (qAF hg)
 generalize m.pool.getD a.toNat default=c at hg hth ⊢
 have e:a=(a.toNat:Int):=(qA0 ha).symm
 have hpl:m.pool.length<=1048576:=by have:=hi.pool;omega
 have g2:=zJT (s:=s) oth hl.1
 obtain⟨t,x,w⟩:=c
 cases t with
 |true =>
  obtain⟨oth',hR⟩:=zYo (s:=fwd s) (zH4 h) hw0 hw hl oth w (hth.1 rfl) 0 (qAQ _)
  have hP:=zUN m (rawS (fwd s) oth) _ hg hpl hR
  rw[<-e]at hP
  exact⟨oth',zTg m (rawS s oth) _ hc hP⟩
 |false =>
  refine⟨oth,?_⟩
  show zCR m s ((fwd s).push (numR x)) oth oth
  unfold zCR St.push
  split
  ·rename_i hh
   have hP:=zUO m (rawS (fwd s) oth) hg hpl g2 (by rw[zBd];exact of_decide_eq_true hh)
   rw[<-e]at hP
   exact zTg m (rawS s oth) _ hc hP
  ·rename_i hh
   have hh':(fwd s).high 1=false:=by simpa using hh
   have hP:=zXP m (rawS (fwd s) oth) hg hpl g2 (by rw[zBd];exact of_decide_eq_false hh')
   rw[<-e]at hP
   rw[zQr]
   exact zTg m (rawS s oth) _ hc hP
end
section
variable {m:Img}{A:Nat->Option VS}
theorem zSO(shw:Int->List UInt8){s:St}(h:Lay m A s)(hw0:0<=s.words)(hw:s.words<=1048576)(hl:s.stack.length<=4000/\s.calls.length<=200000/\s.tries.length<=200000)(oth:List Nat)(h2:2<=s.stack.length)(hv1:Val s (s.top 1))(hv0:Val s (s.top 0))(hlo:zKF s): ∃oth',zIm m s (s.prim shw 7) oth oth' 7:=by
 have htk:takes 7=2:=rfl
 have ht:=zMt oth h2 (by omega)
 cases ho1:s.of (s.top 1) 4 with
 |false =>
  refine⟨oth,zIP m _ _ ?_⟩
  rw[show s.prim shw 7=s.stop 4 by simp[St.prim,htk,ho1]]
  exact zTR m (rawS s oth) ht (of_f h hw oth hv1 ho1)
 |true =>
  obtain⟨i,e1,hk1⟩:=of_b ho1
  have hB1:=zKK h hw oth (hv1.ly i e1)
  have hX1:=zTP h hw oth (hv1.ly i e1) hk1
  rw[hk1]at hB1
  cases ho0:s.of (s.top 0) 4 with
  |false =>
   refine⟨oth,zIP m _ _ ?_⟩
   rw[show s.prim shw 7=s.stop 4 by simp[St.prim,htk,ho0]]
   rw[e1]at ht
   exact zTS m (rawS s oth) ht hB1 (of_f h hw oth hv0 ho0)
  |true =>
   obtain⟨j,e0,hk0⟩:=of_b ho0
   have hB0:=zKK h hw oth (hv0.ly j e0)
   have hX0:=zTP h hw oth (hv0.ly j e0) hk0
   rw[hk0]at hB0
   rw[e1,e0]at ht
   have l1:=((h.objs i (h.lt i (hv1.ly i e1))).txt hk1).2.2
   have l0:=((h.objs j (h.lt j (hv0.ly j e0))).txt hk0).2.2
   have eo1:s.obj (s.top 1)=zAc s.all i:=by rw[e1];rfl
   have eo0:s.obj (s.top 0)=zAc s.all j:=by rw[e0];rfl
   by_cases hg:((zAc s.all i).text.length:Int)+(zAc s.all j).text.length>200
   ·refine⟨oth,zIP m _ _ ?_⟩
    rw[show s.prim shw 7=s.raise (-3) by
     simp only[St.prim,htk,ho1,ho0,eo1,eo0,show Int.toNat 2-1=1 from rfl]
     rw[if_neg (by decide),if_pos trivial,if_neg (by decide),if_pos (by rw[qAE];omega)]]
    exact zR4 m (rawS s oth) _ ht hB1 hB0 hX1 hX0 l1 l0 hg (zM2 m s oth (-3) hlo (by omega) (by omega) (by omega))
   ·obtain⟨oth',hR⟩:=zYo h hw0 hw hl oth ((zAc s.all i).text++(zAc s.all j).text) (by rw[qAE];omega) 2 h2
    refine⟨oth',zIP m _ _ ?_⟩
    rw[show s.prim shw 7=s.block (zB6 ((zAc s.all i).text++(zAc s.all j).text)) 2 by
     simp only[St.prim,htk,ho1,ho0,eo1,eo0,show Int.toNat 2-1=1 from rfl]
     rw[if_neg (by decide),if_pos trivial,if_neg (by decide),if_neg (by rw[qAE];omega)]]
    exact zWj m (rawS s oth) _ ht hB1 hB0 hX1 hX0 l1 l0 hg hR
end
section
variable {m:Img}{A:Nat->Option VS}
theorem zXC(s:St)(oth:List Nat){i:Nat}{b:Rf}(hn:s.ly.Nodup)(hi:i∈s.ly)(hlt:i<s.all.length)(hk:(zAc s.all i).kind=3)(hp:(zAc s.all i).parts.length=1):
  rawS { s with all:=s.all.set i ((zAc s.all i).with0 b) } oth = { rawS s oth with now:=(zCG s.all s.ly).set (offL s.all s.ly i+1+0) (wdN s.all s.ly b) }:=by
 have hw:=zNm (zMz hlt b) s.ly
 have hb:=zSr (zMz hlt b) s.ly s.words.toNat
 have e:∀c:Cl,rcl (s.all.set i ((zAc s.all i).with0 b)) s.ly c=rcl s.all s.ly c:=fun c=>by unfold rcl;rw[hw]
 have e1:rcl (s.all.set i ((zAc s.all i).with0 b)) s.ly=rcl s.all s.ly:=funext e
 have e2:rty (s.all.set i ((zAc s.all i).with0 b)) s.ly=rty s.all s.ly:=funext fun t=>by unfold rty;rw[e]
 unfold rawS
 dsimp only
 rw[zTC hn hi hlt hk hp,hb,hw,e1,e2]
theorem zSJ(shw:Int->List UInt8){s:St}(h:Lay m A s)(hw:s.words<=1048576)(oth:List Nat)(h2:2<=s.stack.length)(hl:s.stack.length<=1048576)(hv1:Val s (s.top 1))(hv0:Val s (s.top 0)): zIm m s (s.prim shw 11) oth oth 11:=by
 have ha:=zPD oth (n:=2) h2 (by omega) hl
 have ht:takes 11=2:=rfl
 refine zOM m _ _ ?_
 cases hof:s.of (s.top 1) 3 with
 |false =>
  rw[show s.prim shw 11=s.stop 4 by
   simp only[St.prim,ht,show Int.toNat 2-1=1 from rfl]
   rw[if_neg (by decide),if_neg (by decide),if_neg (by decide),if_neg (by decide),if_neg (by decide),if_neg (by decide),if_pos (by decide)]
   cases e:s.top 1 with
   |n v=>rfl
   |b i =>
    rw[e]at hof
    have:¬(s.all.getD i default).kind=3:=of_decide_eq_false hof
    dsimp only
    rw[if_pos this]]
  exact zST m (rawS s oth) ha (of_f h hw oth hv1 hof)
 |true =>
  obtain⟨i,e,hk⟩:=of_b hof
  have hi:=hv1.ly i e
  have hlt:=h.lt i hi
  have ho:=h.objs i hlt
  have hB:=zKK h hw oth hi
  rw[hk]at hB
  rw[show 2-1=1 from rfl,e]at ha
  have hc:=ho.cell hk
  have hz:=zM9 (o:=zAc s.all i) (by omega)
  have hx:∃x,(zCG s.all s.ly)[offL s.all s.ly i+1+0]?=some x:=by
   rw[zNC hi (k:=0) (by omega)]
   exact⟨_,qAB (by rw[zNZ];omega)⟩
  obtain⟨x,hx⟩:=hx
  have hP:=zS6 s.words (zCG s.all s.ly) oth (begL s.all s.ly s.words.toNat) (zJQ hi) (zJw ho) (zI0 h hw) (zLq hi) (k:=0) (by omega) (by omega) hx (zTN h hw oth hv0)
  have hS:=zUU m (rawS s oth) ha (zGK s oth (k:=0) (by omega)) hB hP
  rw[show s.prim shw 11=({ s with all:=s.all.set i ((zAc s.all i).with0 (s.top 0)) }:St).numI 2 0 by
   simp only[St.prim,ht,show Int.toNat 2-1=1 from rfl]
   rw[if_neg (by decide),if_neg (by decide),if_neg (by decide),if_neg (by decide),if_neg (by decide),if_neg (by decide),if_pos (by decide)]
   rw[e]
   dsimp only
   rw[if_neg (by
    have:(s.all.getD i default).kind=3:=hk
    omega)]
   rfl]
  rw[zKU,zXC s oth h.nodup hi hlt hk hc]
  exact hS
end
section
variable {con:List UInt8->Bool}{m:Img}{A:Nat->Option VS}
theorem zQ1{k:Int}(h:zIb m k=true)(hk:0<=k): k<m.pool.length:=by
 unfold zIb at h
 cases hp:m.pool[k.toNat]? with
 |none=>rw[hp]at h;cases h
 |some c=>have:=(qAA.1 hp).1;omega
theorem zUq{s:St}(h:MOk con m A s): zKF s:=fun t ht=>by
 obtain⟨_,h1,h2,h3,h4⟩:=h.fr.raise t ht
 exact⟨⟨h1,h2⟩,h3,h4⟩
theorem zdP{s:St}{i:Ins}{v:VS}{ts0 ts1:List Ty}(nw:Now con m A s i v ts0 ts1)(hi:ImgOk m)(oth:List Nat): InsAt m (rawS s oth) ⟨i.op,i.a,i.b⟩ :=
 ⟨nw.here.at_,nw.at_,by have:=hi.code;omega⟩
theorem zcx{s:St}(h:Lay m A s)(hw0:0<=s.words)(hw:s.words<=1048576)(hl:s.stack.length<=4000/\s.calls.length<=200000/\s.tries.length<=200000)(ho:s.out.length<=1048576)(oth:List Nat)(hlo:zKF s){p:Int}(hp0:0<=p)(hp:p<=13)(hn:takes p<=s.stack.length): ∃oth',zIm m s (s.prim shw p) oth oth' p:=by
 have hv:∀k,k<s.stack.length->Val s (s.top k):=fun k hk=>h.stack (top_mem hk)
 by_cases h7:p<7
 ·have ht:takes p=2:=by unfold takes;rw[if_neg (by omega),if_pos (by omega)]
  have h2:2<=s.stack.length:=by omega
  exact⟨oth,zUC m _ s oth ⟨hp0,h7⟩ h2 (by omega) (zT1 h hw (hv 1 (by omega))) (zT1 h hw (hv 0 (by omega))) hlo (by omega) (by omega)⟩
 obtain rfl|rfl|rfl|rfl|rfl|rfl|rfl:p=7\/p=8\/p=9\/p=10\/p=11\/p=12\/p=13:=by omega
 ·have h2:2<=s.stack.length:=by have:takes 7=2:=rfl;omega
  exact zSO _ h hw0 hw hl oth h2 (hv 1 (by omega)) (hv 0 (by omega)) hlo
 ·have h1:1<=s.stack.length:=by have:takes 8=1:=rfl;omega
  exact⟨oth,zSM _ h hw oth h1 (by omega) (hv 0 (by omega))⟩
 ·have h1:1<=s.stack.length:=by have:takes 9=1:=rfl;omega
  exact zSL _ h hw0 hw hl oth h1
 ·have h1:1<=s.stack.length:=by have:takes 10=1:=rfl;omega
  exact⟨oth,zSN _ h hw oth h1 (by omega) (hv 0 (by omega))⟩
 ·have h2:2<=s.stack.length:=by have:takes 11=2:=rfl;omega
  exact⟨oth,zSJ _ h hw oth h2 (by omega) (hv 1 (by omega)) (hv 0 (by omega))⟩
 ·have h1:1<=s.stack.length:=by have:takes 12=1:=rfl;omega
  exact⟨oth,zPk m s oth h1 (by omega) (zT1 h hw (hv 0 (by omega))) ho⟩
 ·have h1:1<=s.stack.length:=by have:takes 13=1:=rfl;omega
  exact⟨oth,zSK _ h hw oth h1 (by omega) (hv 0 (by omega)) ho⟩
structure Bnd(s:St): Prop where
 w0:0<=s.words
 w1:s.words<=1048576
 tr:s.tries.length<=200000
 out:s.out.length<=1048576
theorem zcT{s:St}(h:MOk con m A s)(hb:Bnd s)(oth:List Nat): ∃oth',zCR m s (Go.Vm.step shw m s) oth oth':=by
 obtain⟨i,v,ts0,ts1,nw⟩:=h.now
 obtain⟨hl,hb0,hf0,hat⟩:=nw.len
 obtain⟨o0,o20,a0,a1,b0,b1,hgo⟩:=nw.ins
 obtain⟨hw0,hw,htr,hou⟩:=hb
 have hi:=zNP nw.at_
 have hc:=zdP nw h.img oth
 have hlay:=h.lay
 have h4:=h.high
 have hdp:=h.deep
 have hlo:=zUq h
 have hlen:s.stack.length<=4000/\s.calls.length<=200000/\s.tries.length<=200000:=⟨h4,by omega,htr⟩
 have hv:∀k,k<s.stack.length->Val s (s.top k):=fun k hk=>hlay.stack (top_mem hk)
 have hR:∀k,k<s.stack.length->RfOk s (s.top k):=fun k hk=>zT1 hlay hw (hv k hk)
 unfold Go.Vm.step
 dsimp only
 rw[hi]
 have hfl:=nw.floor
 have hhd:=nw.holds
 obtain⟨op,a,b⟩:=i
 dsimp only at *
 by_cases c0:op=0
 ·subst c0;rw[if_pos rfl];exact⟨oth,st_0 m s oth hc⟩
 rw[if_neg c0]
 by_cases c1:op=1
 ·subst c1;rw[if_pos rfl]
  have e:eff con m ⟨1,a,b⟩ v=⟨0,1,decide (a<m.pool.length),true,false⟩:=by simp[eff]
  rw[e]at hhd
  simp only[decide_eq_true_eq]at hhd
  exact st_1 hlay h.img hw0 hw hlen oth hc a0 hhd
 rw[if_neg c1]
 by_cases c2:op=2
 ·subst c2;rw[if_pos rfl]
  have e:eff con m ⟨2,a,b⟩ v=⟨0,1,decide (a<v.height),true,false⟩:=by simp[eff]
  rw[e]at hhd
  simp only[decide_eq_true_eq]at hhd
  exact⟨oth,st_2 m s oth hc h4 a0 (by omega)⟩
 rw[if_neg c2]
 by_cases c3:op=3
 ·subst c3;rw[if_pos rfl]
  have e:eff con m ⟨3,a,b⟩ v=⟨0,1,decide (v.of>=0)&&decide (a<v.has),true,false⟩:=by simp[eff]
  rw[e]at hhd
  simp only[qAV,decide_eq_true_eq]at hhd
  rcases nw.here.kind with hk|⟨hk,j,f1,f2,f3,f4,f5⟩
  ·omega
  ·exact⟨oth,st_3 hlay hw oth hc h4 f1 f3 a0 (by omega)⟩
 rw[if_neg c3]
 by_cases c4:op=4
 ·subst c4;rw[if_pos rfl];exact⟨oth,st_4 m s oth hc h4⟩
 rw[if_neg c4]
 by_cases c5:op=5
 ·subst c5;rw[if_pos rfl]
  have e:eff con m ⟨5,a,b⟩ v=⟨a,0,true,true,false⟩:=by simp[eff]
  rw[e]at hfl
  change zA1 v<=v.height-a at hfl
  exact⟨oth,st_5 m s oth hc h4 a0 (by omega)⟩
 rw[if_neg c5]
 by_cases c6:op=6
 ·subst c6;rw[if_pos rfl]
  have e:eff con m ⟨6,a,b⟩ v=⟨a+1,1,true,true,false⟩:=by simp[eff]
  rw[e]at hfl
  change zA1 v<=v.height-(a+1)at hfl
  exact⟨oth,st_6 m s oth hc h4 a0 (by omega)⟩
 rw[if_neg c6]
 by_cases c7:op=7
 ·subst c7;rw[if_pos rfl]
  have e:eff con m ⟨7,a,b⟩ v=⟨2,1,true,true,false⟩:=by simp[eff]
  rw[e]at hfl
  change zA1 v<=v.height-2 at hfl
  exact⟨oth,st_7 hlay hw oth hc (by omega) h4 hdp ⟨hb0,by omega⟩ (hv 1 (by omega))⟩
 rw[if_neg c7]
 by_cases c8:op=8
 ·subst c8;rw[if_pos rfl]
  have e:eff con m ⟨8,a,b⟩ v=⟨2,0,decide (v.of>=0)&&v.tries.isEmpty,false,false⟩:=by simp[eff]
  rw[e]at hfl
  change zA1 v<=v.height-2 at hfl
  exact⟨oth,st_8 hlay hw oth hc (by omega) h4 hdp ⟨hb0,by omega⟩ (hv 1 (by omega))⟩
 rw[if_neg c8]
 by_cases c9:op=9
 ·subst c9;rw[if_pos rfl]
  have e:eff con m ⟨9,a,b⟩ v=⟨1,0,decide (v.of>=0)&&v.tries.isEmpty,false,false⟩:=by simp[eff]
  rw[e]at hfl hhd
  change zA1 v<=v.height-1 at hfl
  simp only[qAV,decide_eq_true_eq]at hhd
  obtain⟨cs,c',hcs,_⟩:=nw.here.back hhd.1
  exact⟨oth,st_9 m s oth hc h4 (by omega) (c:=c') (by rw[hcs];simp) (by omega) ⟨hb0,by omega⟩⟩
 rw[if_neg c9]
 by_cases c10:op=10
 ·subst c10;rw[if_pos rfl]
  have e:eff con m ⟨10,a,b⟩ v=⟨b,1,zGS con m a&&decide (b<=8),true,false⟩:=by simp[eff]
  rw[e]at hfl
  change zA1 v<=v.height-b at hfl
  exact zeU hlay hw0 hw hlen oth hc ⟨a0,a1⟩ b0 (by omega)
 rw[if_neg c10]
 by_cases c18:op=18
 ·subst c18;rw[if_pos rfl]
  have e:eff con m ⟨18,a,b⟩ v=⟨b,1,true,true,false⟩:=by simp[eff]
  rw[e]at hfl
  change zA1 v<=v.height-b at hfl
  exact zeN hlay hw0 hw hlen oth hc ⟨a0,a1⟩ b0 (by omega)
 rw[if_neg c18]
 by_cases c12:op=12
 ·subst c12;rw[if_pos rfl]
  have e:eff con m ⟨12,a,b⟩ v=⟨takes a,1,decide (a<=13),true,false⟩:=by simp[eff]
  rw[e]at hhd hfl
  simp only[decide_eq_true_eq]at hhd
  change zA1 v<=v.height-takes a at hfl
  obtain⟨oth',hP⟩:=zcx (s:=fwd s) (zH4 hlay) hw0 hw hlen hou oth hlo a0 hhd (by show takes a<=(s.stack.length:Int);omega)
  exact⟨oth',zaC m (rawS s oth) _ hc hP⟩
 rw[if_neg c12]
 by_cases c17:op=17
 ·subst c17;rw[if_pos rfl];exact⟨oth,zeO m s oth hc (by omega)⟩
 rw[if_neg c17]
 by_cases c14:op=14
 ·subst c14;rw[if_pos rfl]
  have e:eff con m ⟨14,a,b⟩ v=⟨0,0, !v.tries.isEmpty,true,false⟩:=by simp[eff]
  rw[e]at hhd
  have hne:1<=v.tries.length:=by
   cases ht:v.tries with
   |nil=>rw[ht]at hhd;cases hhd
   |cons _ _=>simp
  have:=nw.here.seg.1
  have:=nw.here.app
  exact⟨oth,zeR m s oth hc (by rw[this,qAE];omega) (by omega)⟩
 rw[if_neg c14]
 by_cases c15:op=15
 ·subst c15;rw[if_pos rfl];exact⟨oth,zeQ m s oth hc⟩
 rw[if_neg c15]
 by_cases c11:op=11
 ·subst c11;rw[if_pos rfl]
  have e:eff con m ⟨11,a,b⟩ v=⟨1,1,decide (a<=7),true,false⟩:=by simp[eff]
  rw[e]at hfl
  change zA1 v<=v.height-1 at hfl
  exact⟨oth,zeT hlay hw oth hc a0 (by omega) h4 (hv 0 (by omega))⟩
 rw[if_neg c11]
 by_cases c19:op=19
 ·subst c19;rw[if_pos rfl]
  have e:eff con m ⟨19,a,b⟩ v=⟨0,0,decide (v.height>=1)&&zGS con m b,true,true⟩:=by simp[eff]
  rw[e]at hhd
  simp only[qAV,decide_eq_true_eq]at hhd
  exact⟨oth,zeM hlay hw oth hc (by omega) h4 (hv 0 (by omega))⟩
 rw[if_neg c19]
 have hone:1<=s.stack.length:=by
  by_cases c13:op=13
  ·have e:eff con m ⟨op,a,b⟩ v=⟨1,0,true,false,false⟩:=by simp[eff,c13]
   rw[e]at hfl
   change zA1 v<=v.height-1 at hfl
   omega
  by_cases c16:op=16
  ·have e:eff con m ⟨op,a,b⟩ v=⟨1,0,true,true,true⟩:=by simp[eff,c16]
   rw[e]at hfl
   change zA1 v<=v.height-1 at hfl
   omega
  have e:eff con m ⟨op,a,b⟩ v=⟨0,0,decide (v.height>=1)&&zIb m b,true,true⟩:=by
   unfold eff
   simp only[c0,c1,c2,c3,c4,c5,c6,c7,c8,c9,c10,c11,c12,c13,c14,c15,c16,c17,c18,c19,if_false]
  rw[e]at hhd
  simp only[qAV,decide_eq_true_eq]at hhd
  omega
 have hR0:=hR 0 (by omega)
 have et:(s.goto (s.c.at_+1)).top 0=s.top 0:=rfl
 rw[et]
 have hop:op=13\/op=16\/op=20:=by omega
 cases hr:s.top 0 with
 |b j =>
  dsimp only
  rcases hop with rfl|rfl|rfl
  ·exact⟨oth,zcg m s oth hc h4 hone hr hR0⟩
  ·exact⟨oth,zcf m s oth hc h4 hone hr hR0⟩
  ·exact⟨oth,zce m s oth hc h4 hone hr hR0⟩
 |n x =>
  dsimp only
  rcases hop with rfl|rfl|rfl
  ·rw[if_pos rfl];exact⟨oth,zeS m s oth hc h4 hone hr hR0 hlo (by omega) (by omega)⟩
  ·rw[if_neg (by decide),if_pos rfl];exact⟨oth,zeP m s oth hc h4 hone hr hR0⟩
  ·rw[if_neg (by decide),if_neg (by decide)]
   have e:eff con m ⟨20,a,b⟩ v=⟨0,0,decide (v.height>=1)&&zIb m b,true,true⟩:=by simp[eff]
   rw[e]at hhd
   simp only[qAV,decide_eq_true_eq]at hhd
   exact⟨oth,zeL m s oth hc h4 hone hr hR0 b0 (zQ1 hhd.2 b0)⟩
