import Derived.Test.YtcagoomibpcdlaaGreatDoorMCF
set_option maxHeartbeats 16000000
namespace Go.Proofs.YtcagoomibpcdlaaGreatDoor
open Go.Sx Go.Vm
section
open _root_.Go.Proofs.Tryz
variable {m:Img}{A:Nat->Option VS}
theorem of_b{s:St}{r:Rf}{k:Int}(h:s.of r k=true): ∃i,r=.b i/\(zAc s.all i).kind=k:=by
 cases r with
 |n v=>cases h
 |b i=>exact⟨i,rfl,of_decide_eq_true h⟩
theorem zdl{s:St}(h:Lay m A s)(hw:s.words<=1048576)(oth:List Nat)(tail:Bool)(h2:2<=s.stack.length)(hl:s.stack.length<=1048576)(hc:s.calls.length<=1000)(hb:0<=s.c.base/\s.c.base<=s.stack.length)(hv:Val s (s.top 1)):
  zAW prog 44 [.ptr 0 0,.d (bl tail)] (MX m (rawS s oth)) .top (MX m (rawS (s.app tail) oth)):=by
 have ht:Top2 (rawS s oth) (wdN s.all s.ly (s.top 1)) (wdN s.all s.ly (s.top 0)):=⟨by rw[zBd];exact h2,zGK s oth (by omega),zGK s oth (by omega),by rw[zBd];exact hl⟩
 cases hof:s.of (s.top 1) 2 with
 |false =>
  rw[show s.app tail=s.stop 4 by simp[St.app,hof]]
  exact zYP m (rawS s oth) tail ht (of_f h hw oth hv hof)
 |true =>
  obtain⟨i,e,hk⟩:=of_b hof
  have hi:=hv.ly i e
  have hB:=zKK h hw oth hi
  rw[hk]at hB
  rw[e]at ht
  have ho:s.of (.b i) 2=true:=e▸hof
  cases tail with
  |true =>
   rw[show s.app true = { s with stack:=s.stack.take s.c.base.toNat++[s.top 0],c:=⟨(zAc s.all i).tag,s.c.base,.b i⟩ } by simp[St.app,ho,e,St.obj,zAc],zXD]
   exact zSx m (rawS s oth) ht (by rw[zBd];exact hb) hB
  |false =>
   by_cases hq:s.calls.length>=1000
   ·rw[show s.app false=s.stop 6 by simp[St.app,hof,hq]]
    have hO:=of_t h hw oth hv hof
    rw[e]at hO
    exact zSy m (rawS s oth) ht (by rw[zIv];omega) hO
   ·rw[show s.app false = { s with calls:=s.calls++[s.c],stack:=s.stack.take (s.stack.length-2)++[s.top 0],c:=⟨(zAc s.all i).tag,(s.stack.length:Int)-2,.b i⟩ } by simp[St.app,ho,e,St.obj,zAc,hq],zXG]
    exact zSz m (rawS s oth) ht (by rw[zIv];omega) hB
theorem zH4{s:St}(h:Lay m A s): Lay m A (fwd s):=h.sub rfl rfl rfl rfl fun _r hr=>h.val hr
theorem st_7{s:St}(h:Lay m A s)(hw:s.words<=1048576)(oth:List Nat){a b:Int}(hc:InsAt m (rawS s oth) ⟨7,a,b⟩)(h2:2<=s.stack.length)(hl:s.stack.length<=4000)(hq:s.calls.length<=1000)(hb:0<=s.c.base/\s.c.base<=s.stack.length)(hv:Val s (s.top 1)): zCR m s ((fwd s).app false) oth oth :=
 zcW m (rawS s oth) _ hc (zdl (s:=fwd s) (zH4 h) hw oth false h2 (by show s.stack.length<=_;omega) hq hb ⟨hv.num,hv.ly⟩)
theorem st_8{s:St}(h:Lay m A s)(hw:s.words<=1048576)(oth:List Nat){a b:Int}(hc:InsAt m (rawS s oth) ⟨8,a,b⟩)(h2:2<=s.stack.length)(hl:s.stack.length<=4000)(hq:s.calls.length<=1000)(hb:0<=s.c.base/\s.c.base<=s.stack.length)(hv:Val s (s.top 1)): zCR m s ((fwd s).app true) oth oth :=
 zcV m (rawS s oth) _ hc (zdl (s:=fwd s) (zH4 h) hw oth true h2 (by show s.stack.length<=_;omega) hq hb ⟨hv.num,hv.ly⟩)
theorem st_3{s:St}(h:Lay m A s)(hw:s.words<=1048576)(oth:List Nat){a b:Int}{i:Nat}(hc:InsAt m (rawS s oth) ⟨3,a,b⟩)(hl:s.stack.length<=4000)(hf:s.c.fun_=.b i)(hk:(zAc s.all i).kind=2)(ha:0<=a)(hp:a<(zAc s.all i).parts.length):
  zCR m s ((fwd s).push (((fwd s).obj (fwd s).c.fun_).parts.getD a.toNat default)) oth oth:=by
 have hi:i∈s.ly:=h.fun_.ly i hf
 have e:a=(a.toNat:Int):=(qA0 ha).symm
 unfold zCR St.push
 split
 ·rename_i hh;exact zZ2 m (rawS s oth) _ hc (zUx m oth hl hh)
 ·rename_i hh
  have hX:=zQw h hw oth hi (k:=a.toNat) (by omega) (by omega)
  rw[<-e,<-hf]at hX
  have ho:((fwd s).obj (fwd s).c.fun_)=zAc s.all i:=by show s.obj s.c.fun_=_;rw[hf];rfl
  rw[ho]
  exact zca m (rawS s oth) _ hc (zUy m oth hl (by simpa using hh)) hX (zaa m oth hl _)
theorem zbV{s:St}(h:Lay m A s)(hw:s.words<=1048576)(oth:List Nat){a:Int}(ha:0<=a)(h1:1<=s.stack.length)(hl:s.stack.length<=1048576)(hv:Val s (s.top 0)):
  zAW prog 47 [.ptr 0 0,.d (i64 a)] (MX m (rawS s oth)) .top (MX m (rawS (if !s.of (s.top 0) 1||decide (a>=((s.obj (s.top 0)).parts.length:Int))then s.stop 4 else s.instead 1 ((s.obj (s.top 0)).parts.getD a.toNat default)) oth)):=by
 have g1:1<=(rawS s oth).stk.length:=by rw[zBd];exact h1
 have g2:(rawS s oth).stk.length<=1048576:=by rw[zBd];exact hl
 have ht:=zGK s oth (k:=0) (by omega)
 cases hof:s.of (s.top 0) 1 with
 |false=>exact zX3 m (rawS s oth) a g1 ht g2 (of_f h hw oth hv hof)
 |true =>
  obtain⟨i,e,hk⟩:=of_b hof
  have hi:=hv.ly i e
  have ho:=h.objs i (h.lt i hi)
  have hB:=zKK h hw oth hi
  have hz:=zM9 (o:=zAc s.all i) (by omega)
  rw[e]at ht
  rw[hk]at hB
  have eo:s.obj (s.top 0)=zAc s.all i:=by rw[e];rfl
  rw[eo]
  by_cases hp:a>=((zAc s.all i).parts.length:Int)
  ·rw[decide_eq_true hp]
   have hP:=zb4 s.words (zCG s.all s.ly) oth (begL s.all s.ly s.words.toNat) (zJQ hi) (zJw ho) (zI0 h hw) (zLq hi) (k:=a) (by rw[if_neg (by omega),hz];exact hp)
   exact zVE m (rawS s oth) a g1 ht g2 hB hP
  ·rw[decide_eq_false hp]
   have hX:=zQw h hw oth hi (k:=a.toNat) (by omega) (by omega)
   rw[<-(qA0 ha)]at *
   have hf:=zX2 m (rawS s oth) _ g1 ht g2 hB hX
   rw[<-zFG]at hf
   exact hf
theorem zeT{s:St}(h:Lay m A s)(hw:s.words<=1048576)(oth:List Nat){a b:Int}(hc:InsAt m (rawS s oth) ⟨11,a,b⟩)(ha:0<=a)(h1:1<=s.stack.length)(hl:s.stack.length<=4000)(hv:Val s (s.top 0)):
  zCR m s (if !(fwd s).of ((fwd s).top 0) 1||decide (a>=(((fwd s).obj ((fwd s).top 0)).parts.length:Int))then(fwd s).stop 4 else(fwd s).instead 1 (((fwd s).obj ((fwd s).top 0)).parts.getD a.toNat default)) oth oth :=
 zaD m (rawS s oth) _ hc (zbV (s:=fwd s) (zH4 h) hw oth ha h1 (by show s.stack.length<=_;omega) ⟨hv.num,hv.ly⟩)
theorem zSM(shw:Int->List UInt8){s:St}(h:Lay m A s)(hw:s.words<=1048576)(oth:List Nat)(h1:1<=s.stack.length)(hl:s.stack.length<=1048576)(hv:Val s (s.top 0)): zIm m s (s.prim shw 8) oth oth 8:=by
 have ha:=zPD oth (n:=1) h1 (by omega) hl
 rw[qBM]at ha
 have ht:takes 8=1:=rfl
 refine zPl m _ _ ?_
 cases hof:s.of (s.top 0) 4 with
 |false =>
  rw[show s.prim shw 8=s.stop 4 by simp[St.prim,ht,hof]]
  exact zUW m (rawS s oth) ha (of_f h hw oth hv hof)
 |true =>
  obtain⟨i,e,hk⟩:=of_b hof
  have hi:=hv.ly i e
  have hB:=zKK h hw oth hi
  rw[hk]at hB
  rw[e]at ha
  rw[show s.prim shw 8=s.numI 1 (zAc s.all i).text.length by simp[St.prim,ht,hof];rw[e];rfl,zKU]
  exact zUX m (rawS s oth) ha hB (zTP h hw oth hi hk)
theorem zSK(shw:Int->List UInt8){s:St}(h:Lay m A s)(hw:s.words<=1048576)(oth:List Nat)(h1:1<=s.stack.length)(hl:s.stack.length<=1048576)(hv:Val s (s.top 0))(ho:s.out.length<=1048576): zIm m s (s.prim shw 13) oth oth 13:=by
 have ha:=zPD oth (n:=1) h1 (by omega) hl
 rw[qBM]at ha
 have ht:takes 13=1:=rfl
 refine zOL m _ _ ?_
 cases hof:s.of (s.top 0) 4 with
 |false =>
  rw[show s.prim shw 13=s.stop 4 by simp[St.prim,ht,hof]]
  exact zSS m (rawS s oth) ha (of_f h hw oth hv hof)
 |true =>
  obtain⟨i,e,hk⟩:=of_b hof
  have hi:=hv.ly i e
  have hB:=zKK h hw oth hi
  rw[hk]at hB
  rw[e]at ha
  rw[show s.prim shw 13=(s.put (zAc s.all i).text).numI 1 0 by simp[St.prim,ht,hof];rw[e];rfl,zKU]
  exact zUV m (rawS s oth) ha hB (zTP h hw oth hi hk) ho
theorem zSN(shw:Int->List UInt8){s:St}(h:Lay m A s)(hw:s.words<=1048576)(oth:List Nat)(h1:1<=s.stack.length)(hl:s.stack.length<=1048576)(hv:Val s (s.top 0)): zIm m s (s.prim shw 10) oth oth 10:=by
 have ha:=zPD oth (n:=1) h1 (by omega) hl
 rw[qBM]at ha
 have ht:takes 10=1:=rfl
 refine zON m _ _ ?_
 cases hof:s.of (s.top 0) 3 with
 |false =>
  rw[show s.prim shw 10=s.stop 4 by simp[St.prim,ht,hof]]
  exact zSU m (rawS s oth) ha (of_f h hw oth hv hof)
 |true =>
  obtain⟨i,e,hk⟩:=of_b hof
  have hi:=hv.ly i e
  have hB:=zKK h hw oth hi
  rw[hk]at hB
  rw[e]at ha
  have hc:=(h.objs i (h.lt i hi)).cell hk
  rw[show s.prim shw 10=s.instead 1 ((zAc s.all i).parts.getD 0 default) by simp[St.prim,ht,hof];rw[e];rfl,zFG]
  exact zUY m (rawS s oth) ha hB (zQw h hw oth hi (k:=0) (by omega) (by omega))
end
section
variable {m:Img}{A:Nat->Option VS}
theorem zeM{s:St}(h:Lay m A s)(hw:s.words<=1048576)(oth:List Nat){a b:Int}(hc:InsAt m (rawS s oth) ⟨19,a,b⟩)(h1:1<=s.stack.length)(hl:s.stack.length<=4000)(hv:Val s (s.top 0)):
  zCR m s (if !(fwd s).of ((fwd s).top 0) 1 then(fwd s).stop 4 else if((fwd s).obj ((fwd s).top 0)).tag≠b then(fwd s).goto a else fwd s) oth oth:=by
 have hL:=zH4 h
 have hT:=zMu (s:=s) m oth hl (k:=0) (by omega)
 cases hof:s.of (s.top 0) 1 with
 |false =>
  have e:(fwd s).of ((fwd s).top 0) 1=false:=hof
  rw[e]
  exact zWq m (rawS s oth) _ hc hT (of_f (s:=fwd s) hL hw oth ⟨hv.num,hv.ly⟩ hof)
 |true =>
  have e:(fwd s).of ((fwd s).top 0) 1=true:=hof
  rw[e]
  obtain⟨i,e1,hk⟩:=of_b hof
  have hi:=hv.ly i e1
  have hB:=zKK h hw oth hi
  rw[hk]at hB
  have hO:=of_t (s:=fwd s) hL hw oth (r:=s.top 0) ⟨hv.num,hv.ly⟩ hof
  have eo:(fwd s).obj ((fwd s).top 0)=zAc s.all i:=by show s.obj (s.top 0)=_;rw[e1];rfl
  rw[eo]
  rw[<-e1]at hB
  exact zZ5 m (rawS s oth) _ hc hT hO hB (zVA m (fwd s) oth a ((zAc s.all i).tag≠b))
end
section
theorem zOD(s:St)(oth:List Nat): rtsR (rawS s oth)=s.roots.map (wdN s.all s.ly):=by
 simp[rtsR,rawS,St.roots,rcl,rty,List.map_map,Function.comp_def]
theorem zQg(all:List Thing)(ly ly':List Nat)(rest:List Nat): ∀(l:List Cl),setC (l.map (rcl all ly)) ((l.map (·.fun_)).map (wdN all ly')++rest)=l.map (rcl all ly')
 |[]=>by simp[setC]
 |c::l=>by
  have:=zQg all ly ly' rest l
  simp only[setC]at this
  simp only[setC,qAr,qBk,List.zipWith_cons_cons,this]
  rfl
theorem zQf(all:List Thing)(ly ly':List Nat)(rest:List Nat): ∀(l:List Ty),setT (l.map (rty all ly)) ((l.map (·.c.fun_)).map (wdN all ly')++rest)=l.map (rty all ly')
 |[]=>by simp[setT]
 |c::l=>by
  have:=zQf all ly ly' rest l
  simp only[setT]at this
  simp only[setT,qAr,qBk,List.zipWith_cons_cons,this]
  rfl
theorem zcu(s:St)(oth oth':List Nat)(ly':List Nat)(u:Int):
  rawS { s with used:=u,ly:=ly' } oth'=gcR (rawS s oth) (zCG s.all ly') oth' (begL s.all ly' s.words.toNat) (s.roots.map (wdN s.all ly')):=by
 have hl:(rawS s oth).stk.length=(s.stack.map (wdN s.all ly')).length:=by rw[zBd,qAC]
 have hc:(rawS s oth).cls.length=((s.calls.map (·.fun_)).map (wdN s.all ly')).length:=by rw[zIv,qAC,qAC]
 have hw:s.roots.map (wdN s.all ly')=s.stack.map (wdN s.all ly')++(wdN s.all ly' s.c.fun_::((s.calls.map (·.fun_)).map (wdN s.all ly')++((s.tries.map (·.c.fun_)).map (wdN s.all ly')++[]))):=by
  simp[St.roots]
 have e1:(s.roots.map (wdN s.all ly')).take (rawS s oth).stk.length=s.stack.map (wdN s.all ly'):=by rw[hl,hw,List.take_left'];rfl
 have e2:(s.roots.map (wdN s.all ly')).getD (rawS s oth).stk.length 0=wdN s.all ly' s.c.fun_:=by
  rw[hl,hw,qAD,qAJ (qAP _),qBM];rfl
 have e3:(s.roots.map (wdN s.all ly')).drop ((rawS s oth).stk.length+1)=(s.calls.map (·.fun_)).map (wdN s.all ly')++((s.tries.map (·.c.fun_)).map (wdN s.all ly')++[]):=by
  rw[<-List.drop_drop,hl,hw,List.drop_left']
  ·rfl
  ·rfl
 have e4:(s.roots.map (wdN s.all ly')).drop ((rawS s oth).stk.length+1+(rawS s oth).cls.length)=(s.tries.map (·.c.fun_)).map (wdN s.all ly')++[]:=by
  rw[<-List.drop_drop,e3,hc,List.drop_left'];rfl
 unfold gcR
 rw[e1,e2,e3,e4]
 have h5:=zQg s.all s.ly ly' ((s.tries.map (·.c.fun_)).map (wdN s.all ly')++[]) s.calls
 have h6:=zQf s.all s.ly ly' [] s.tries
 have h5':setC (rawS s oth).cls ((s.calls.map (·.fun_)).map (wdN s.all ly')++((s.tries.map (·.c.fun_)).map (wdN s.all ly')++[]))=s.calls.map (rcl s.all ly'):=h5
 have h6':setT (rawS s oth).trs ((s.tries.map (·.c.fun_)).map (wdN s.all ly')++[])=s.tries.map (rty s.all ly'):=h6
 rw[h5',h6']
 rfl
open _root_.Go.Proofs.Tryz
variable {m:Img}{A:Nat->Option VS}
theorem zYt{s:St}(h:Lay m A s)(hw0:0<=s.words)(hw:s.words<=1048576)(hl:s.stack.length<=200000/\s.calls.length<=200000/\s.tries.length<=200000)(oth:List Nat)(n:Nat):
  ∃oth',zAW prog 76 [.ptr 0 0,.d (i64 (n:Int))] (MX m (rawS s oth)) (.d (bl (decide ((n:Int)<=(s.gc n).words-(s.gc n).used)))) (MX m (rawS (if(n:Int)<=(s.gc n).words-(s.gc n).used then s.gc n else(s.gc n).stop 5) oth')):=by
 have hlen:(((rawS s oth).now.length:Nat):Int)=s.used:=by show (((zCG s.all s.ly).length:Nat):Int)=_;rw[zFS,h.used]
 have hn:=zI0 h hw
 by_cases hq:s.words-s.used<(n:Int)
 ·have eg:s.gc n = { s with used:=(live s.all s.roots:Int),ly:=zDd s.all s.roots }:=by rw[St.gc,if_pos hq]
  have hlv:=zUp h
  have hrl:s.roots.length<=1048576:=by
   simp only[St.roots,qAE,qAN,qAC];omega
  have hsz:sumN s.all s.ly<=s.words.toNat:=by have h1:=h.used;have h2:=h.room;omega
  have hC:=zS8 (all:=s.all) (ly:=s.ly) (size:=s.words.toNat) oth s.roots h.nodup h.lt h.closed
   (fun i hi=>⟨zJw (h.objs i (h.lt i hi)),by have:=(h.objs i (h.lt i hi)).kind;omega⟩) (fun i hi h4=>((h.objs i (h.lt i hi)).txt h4).1) hsz (by omega) (fun r hr i e=>h.roots i (e▸hr)) hrl
  have ew:((s.words.toNat:Nat):Int)=s.words:=qA0 hw0
  rw[ew]at hC
  have hrr:(rtsR (rawS s oth)).length=s.roots.length:=by rw[zOD,qAC]
  have en:(((zCG s.all (zDd s.all s.roots)).length:Nat):Int)=(live s.all s.roots:Int):=by rw[zFS];rfl
  have hC':zAW prog 130 [.ptr 0 0,.buf 4 (rtsR (rawS s oth)).length] (HO (rawS s oth).size (rawS s oth).now (rawS s oth).oth (rawS s oth).beg++[rowW (rtsR (rawS s oth))]) (.buf 6 (rtsR (rawS s oth)).length) (HO (rawS s oth).size (zCG s.all (zDd s.all s.roots)) (nowM s.all s.ly (zDd s.all s.roots)) (begL s.all (zDd s.all s.roots) s.words.toNat)++[rowW (rtsR (rawS s oth)),Ob.gone,rowW (s.roots.map (wdN s.all (zDd s.all s.roots)))]):=by
   rw[hrr,zOD];exact hC
  refine⟨nowM s.all s.ly (zDd s.all s.roots),?_⟩
  rw[eg]
  have hg:=zcu s oth (nowM s.all s.ly (zDd s.all s.roots)) (zDd s.all s.roots) (live s.all s.roots:Int)
  refine zaN m (rawS s oth) _ (n:Int) _ ⟨hw0,hw⟩ hn (by have:=h.room;omega) (by rw[hlen];show ¬(n:Int)<=s.words-s.used;omega) ⟨by rw[zBd];exact hl.1,by rw[zIv];exact hl.2.1,by rw[zLH];exact hl.2.2⟩ hC' (by rw[hrr,qAC]) ?_
  by_cases hq2:(n:Int)<=s.words-(live s.all s.roots:Int)
  ·refine .inl ⟨by rw[en];exact hq2,decide_eq_true hq2,?_⟩
   rw[if_pos hq2];exact hg
  ·refine .inr ⟨by rw[en];exact hq2,decide_eq_false hq2,?_⟩
   rw[if_neg hq2,zXE,hg]
 ·have eg:s.gc n=s:=by rw[St.gc,if_neg hq]
  have h1:(n:Int)<=s.words-s.used:=by omega
  refine⟨oth,?_⟩
  rw[eg,if_pos h1,decide_eq_true h1]
  exact zUn (zW8 m (rawS s oth) (n:Int) ⟨hw0,hw⟩ hn (by rw[hlen];exact h1))
end
section
variable {m:Img}{A:Nat->Option VS}
theorem zaR{s:St}(h:Lay m A s)(oth:List Nat)(o:Thing)(ho:∀r∈o.parts,In s.ly r)(hr:s.used+(o.need:Int)<=s.words):
  rawS { s with used:=s.used+(o.need:Int),all:=s.all++[o],ly:=s.ly++[s.all.length] } oth = { rawS s oth with now:=(rawS s oth).now++zDM o::zGU s.all s.ly o,beg:=(rawS s oth).beg.set (rawS s oth).now.length true }:=by
 have hv:∀r∈s.roots,wdN (s.all++[o]) (s.ly++[s.all.length]) r=wdN s.all s.ly r:=fun r hr=>zTF h.lt fun i e=>h.roots i (e▸hr)
 have e1:s.stack.map (wdN (s.all++[o]) (s.ly++[s.all.length]))=s.stack.map (wdN s.all s.ly):=qBg fun r hr=>hv r (zEZ.2 (.inl hr))
 have e2:rcl (s.all++[o]) (s.ly++[s.all.length]) s.c=rcl s.all s.ly s.c:=by
  unfold rcl;rw[hv _ (zEZ.2 (.inr (.inl rfl)))]
 have e3:s.calls.map (rcl (s.all++[o]) (s.ly++[s.all.length]))=s.calls.map (rcl s.all s.ly):=qBg fun c hc=>by
  unfold rcl;rw[hv _ (zEZ.2 (.inr (.inr (.inl ⟨c,hc,rfl⟩))))]
 have e4:s.tries.map (rty (s.all++[o]) (s.ly++[s.all.length]))=s.tries.map (rty s.all s.ly):=qBg fun t ht=>by
  unfold rty rcl;rw[hv _ (zEZ.2 (.inr (.inr (.inr ⟨t,ht,rfl⟩))))]
 have e5:=zTD (o:=o) h.lt h.closed ho
 have e6:=zbj (o:=o) (size:=s.words.toNat) h.lt (by have:=h.used;omega)
 have e7:(zCG s.all s.ly).length=sumN s.all s.ly:=zFS _ _
 unfold rawS
 dsimp only
 rw[e1,e2,e3,e4,e5,e6,e7]
theorem zT4{s:St}(h:Lay m A s)(oth:List Nat)(o:Thing)(n:Nat)(ho:∀r∈o.parts,In s.ly r)(hr:s.used+(o.need:Int)<=s.words):
  rawS (s.new o n) oth = { rawS s oth with now:=(rawS s oth).now++zDM o::zGU s.all s.ly o,beg:=(rawS s oth).beg.set (rawS s oth).now.length true,stk:=(rawS s oth).stk.take ((rawS s oth).stk.length-n)++[2*(rawS s oth).now.length] }:=by
 have e:wdN (s.all++[o]) (s.ly++[s.all.length]) (.b s.all.length)=2*(zCG s.all s.ly).length:=by
  rw[wdN,zKX fun hm=>Nat.lt_irrefl _ (h.lt _ hm),zJG h.lt,zFS]
 unfold St.new
 rw[zFG,zaR h oth o ho hr]
 dsimp only
 rw[e]
 rfl
end
section
open _root_.Go.Proofs.Tryz
variable {m:Img}{A:Nat->Option VS}
theorem zTN{s:St}(h:Lay m A s)(hw:s.words<=1048576)(oth:List Nat){r:Rf}(hv:Val s r): zAp prog 131 [.ptr 0 0,.d (w64 (wdN s.all s.ly r))] (HO (rawS s oth).size (rawS s oth).now (rawS s oth).oth (rawS s oth).beg) (bl true):=by
 cases r with
 |n v =>
  obtain⟨h1,h2⟩:=zQT s.all s.ly v
  exact zTM s.words (zCG s.all s.ly) oth (begL s.all s.ly s.words.toNat) h1 h2
 |b i =>
  have hi:=hv.ly i rfl
  have h1:=zOR (all:=s.all) hi
  have h2:=zHP (zAc s.all i)
  have h3:=zFS s.all s.ly
  exact zWa s.words (zCG s.all s.ly) oth (begL s.all s.ly s.words.toNat) (a:=offL s.all s.ly i) (by omega) (zI0 h hw) (zLq hi)
theorem zRK(s:St)(n:Nat): (s.gc n).stack=s.stack:=by unfold St.gc;split <;> rfl
theorem zRJ(s:St)(n:Nat): (s.gc n).words=s.words:=by unfold St.gc;split <;> rfl
theorem zbh{s:St}(h:Lay m A s)(hw0:0<=s.words)(hw:s.words<=1048576)(hl:s.stack.length<=4000/\s.calls.length<=200000/\s.tries.length<=200000)(oth:List Nat)(o:Thing)(ho:HeadOk o)(hk:o.kind<=3)(n:Nat)(hz:o.size=n)(hn:n<=s.stack.length)(hp:o.parts=s.partsT n):
  ∃oth',zAW prog 46 [.ptr 0 0,.d (i64 o.kind),.d (i64 o.tag),.d (i64 (n:Int))] (MX m (rawS s oth)) .top (MX m (rawS (s.block o n) oth')):=by
 subst hz
 have g1:(rawS s oth).stk.length<=1048576:=by rw[zBd];omega
 cases hh:s.high (1-o.size)with
 |true =>
  rw[show s.block o o.size=s.stop 6 by rw[St.block,hh];rfl]
  exact⟨oth,zSq m (rawS s oth) o g1 (by omega) (by rw[zBd];exact of_decide_eq_true hh)⟩
 |false =>
  have hq:¬(((rawS s oth).stk.length:Nat):Int)+(1-(o.size:Int))>4000:=by rw[zBd];exact of_decide_eq_false hh
  rw[show s.block o o.size=(s.gc o.need).alloc o o.size by rw[St.block,hh];rfl]
  obtain⟨oth',hR⟩:=zYt h hw0 hw ⟨by omega,hl.2⟩ oth o.need
  have hs:=zD7 o
  refine⟨oth',?_⟩
  have hL:=h.gc (n:=o.need)
  have es:=zRK s o.need
  have ew:=zRJ s o.need
  by_cases hf:(o.need:Int)<=(s.gc o.need).words-(s.gc o.need).used
  ·rw[if_pos hf,decide_eq_true hf,hs]at hR
   rw[show (s.gc o.need).alloc o o.size=(s.gc o.need).new o o.size by rw[St.alloc,if_neg (by omega)]]
   have hb:o.kind≠4:=by omega
   have hnow:(rawS (s.gc (o.size+1)) oth').now.length=sumN (s.gc (o.size+1)).all (s.gc (o.size+1)).ly:=zFS _ _
   rw[hs]at hL es ew hf ⊢
   have hu:=hL.used
   have hro:=hL.room
   have hpp:o.parts=(s.gc (o.size+1)).stack.drop ((s.gc (o.size+1)).stack.length-o.size):=by rw[es,hp];rfl
   have hst:(rawS (s.gc (o.size+1)) oth').stk.length=s.stack.length:=by rw[zBd,es]
   have hbl:((rawS (s.gc (o.size+1)) oth').beg.length:Int)=(s.gc (o.size+1)).words:=by
    show (((begL _ _ _).length:Nat):Int)=_
    rw[zLp _ _ (by omega)];omega
   have hB:=zVY m (rawS s oth) (rawS (s.gc (o.size+1)) oth') o ho hk g1 (by omega) hq hR ⟨by show 0<=(s.gc _).words;omega,by show (s.gc _).words<=_;omega⟩ (by rw[hnow];show _<=(s.gc _).words;omega) hbl (by omega) (by omega) (fun i x hi hx=>by
    have hx':(((s.gc (o.size+1)).stack.map (wdN (s.gc (o.size+1)).all (s.gc (o.size+1)).ly)))[(rawS (s.gc (o.size+1)) oth').stk.length-o.size+i]?=some x:=hx
    rw[qAH]at hx'
    obtain⟨r,hr,rfl⟩:=Option.map_eq_some_iff.1 hx'
    exact zTN hL (by omega) oth' (hL.stack (qAF hr)))
   rw[zT4 hL oth' o o.size (fun r hr i e=>hL.roots i (by rw[hpp]at hr;exact e▸zEZ.2 (.inl (qAo hr)))) (by omega)]
   have hbody:zGU (s.gc (o.size+1)).all (s.gc (o.size+1)).ly o=(rawS (s.gc (o.size+1)) oth').stk.drop ((rawS (s.gc (o.size+1)) oth').stk.length-o.size):=by
    rw[zGU,if_neg hb,zBd]
    conv=>lhs;rw[hpp]
    rw[List.map_drop];rfl
   rw[hbody]
   exact hB
  ·rw[if_neg hf,decide_eq_false hf,hs]at hR
   rw[show (s.gc o.need).alloc o o.size=(s.gc o.need).stop 5 by rw[St.alloc,if_pos (by omega)]]
   rw[hs]
   exact zSp m (rawS s oth) _ o g1 (by omega) hq hR
end
section
open _root_.Go.Proofs.Tryz
variable {m:Img}{A:Nat->Option VS}
theorem zYo{s:St}(h:Lay m A s)(hw0:0<=s.words)(hw:s.words<=1048576)(hl:s.stack.length<=4000/\s.calls.length<=200000/\s.tries.length<=200000)(oth:List Nat)(t:List UInt8)(ht:t.length<=200)(n:Nat)(hn:n<=s.stack.length):
  ∃oth',zAW prog 75 [.ptr 0 0,.d (str t),.d (i64 (n:Int))] (MX m (rawS s oth)) .top (MX m (rawS (s.block (zB6 t) n) oth')):=by
 have g1:(rawS s oth).stk.length<=1048576:=by rw[zBd];omega
 have en:(zB6 t).need=(t.length+7) / 8+1:=by unfold Thing.need zB6;rw[if_pos rfl];show 1+(t.length+7) / 8=_;omega
 cases hh:s.high (1-n)with
 |true =>
  rw[show s.block (zB6 t) n=s.stop 6 by rw[St.block,hh];rfl]
  exact⟨oth,zTU m (rawS s oth) t n g1 (by omega) (by rw[zBd];exact of_decide_eq_true hh)⟩
 |false =>
  have hq:¬(((rawS s oth).stk.length:Nat):Int)+(1-(n:Int))>4000:=by rw[zBd];exact of_decide_eq_false hh
  rw[show s.block (zB6 t) n=(s.gc (zB6 t).need).alloc (zB6 t) n by rw[St.block,hh];rfl]
  obtain⟨oth',hR⟩:=zYt h hw0 hw ⟨by omega,hl.2⟩ oth (zB6 t).need
  refine⟨oth',?_⟩
  have hL:=h.gc (n:=(zB6 t).need)
  have es:=zRK s (zB6 t).need
  have ew:=zRJ s (zB6 t).need
  by_cases hf:((zB6 t).need:Int)<=(s.gc (zB6 t).need).words-(s.gc (zB6 t).need).used
  ·rw[if_pos hf,decide_eq_true hf,en]at hR
   rw[show (s.gc (zB6 t).need).alloc (zB6 t) n=(s.gc (zB6 t).need).new (zB6 t) n by rw[St.alloc,if_neg (by omega)]]
   have hnow:(rawS (s.gc ((t.length+7) / 8+1)) oth').now.length=sumN (s.gc ((t.length+7) / 8+1)).all (s.gc ((t.length+7) / 8+1)).ly:=zFS _ _
   have en':=en
   rw[en]at hL es ew hf ⊢
   have hu:=hL.used
   have hro:=hL.room
   have hst:(rawS (s.gc ((t.length+7) / 8+1)) oth').stk.length=s.stack.length:=by rw[zBd,es]
   have hbl:((rawS (s.gc ((t.length+7) / 8+1)) oth').beg.length:Int)=(s.gc ((t.length+7) / 8+1)).words:=by
    show (((begL _ _ _).length:Nat):Int)=_
    rw[zLp _ _ (by omega)];omega
   have hB:=zWk m (rawS s oth) (rawS (s.gc ((t.length+7) / 8+1)) oth') t ht n g1 (by omega) hq hR ⟨by show 0<=(s.gc _).words;omega,by show (s.gc _).words<=_;omega⟩ (by rw[hnow,en'];show _<=(s.gc _).words;omega) hbl (by omega) (by omega)
   rw[zT4 hL oth' (zB6 t) n (fun r hr=>absurd hr (by simp[zB6])) (by rw[en'];omega)]
   exact hB
  ·rw[if_neg hf,decide_eq_false hf,en]at hR
   rw[show (s.gc (zB6 t).need).alloc (zB6 t) n=(s.gc (zB6 t).need).stop 5 by rw[St.alloc,if_pos (by omega)]]
   rw[en]
   exact zTT m (rawS s oth) _ t ht n g1 (by omega) hq hR
