import Derived.Test.YtcagoomibpcdlaaGreatDoorMBJ
set_option maxHeartbeats 16000000
namespace Go.Proofs.YtcagoomibpcdlaaGreatDoor
open Go.Sx Go.Vm
open _root_.Go.Proofs.Tryz
section
attribute [local irreducible] zAL Program.underlying Ylds zA2 alex zBZ zBP awp zAb zBh zBg zAW zBF zAp zCO zBG zBR zAr zBV zBY zBe zCQ zBM zA8 zBE
def zL5(s:St): Prop:=∀t,s.tries.getLast? = some t->0<=t.height/\t.height<=s.stack.length/\0<=t.calls/\t.calls<=s.calls.length
theorem zLj(m:Img)(s:St)(n:Int)(hL:zL5 s)(hS:Sml s): zAb prog 67 [smD m s,i64 n] (smD m (s.raise n)):=by
 have h1:=hS.stack
 have h2:=hS.calls
 have h3:=hS.tries
 clear hS
 have hN:=zLl n
 refine zB0 func67 rfl ntmps67 results67 rfl ?_
 intro wb St0
 unfold zL5 at hL
 unfold St.raise
 cases hl:s.tries.getLast? with
 |none =>
  have he:s.tries=[]:=qBa.1 hl
  have hz:s.tries.length=0:=by rw[he];rfl
  have hT:=zDX m { s with num:=n } 2
  dsimp only
  replace hT:zAb prog 28 [smD m { s with num:=n },i64 2] (smD m { s with num:=n,fin:=2 }):=hT
  clear hL hl he
  generalize hs':({ s with num:=n,fin:=2 }:St)=s' at *
  clear hs'
  unfold smD at *
  dsimp only at hT
  skip
  repeat' first|apply en_n|apply zAE|apply zAA|apply zAB|apply w0|(refine zAX ?_)|(refine zAu ?_)|exact zA5|(with_reducible exact rfl)|(refine RV_c rfl rfl zAV rfl rfl ?_ ?_)|exact ycA zB3 hT|refine aBoA ?_|refine aAlA ?_|refine ayA rfl ?_|refine ayQ rfl ?_|apply ay (hd:=rfl)|(refine w0' ?_)|refine aStA ?_|refine zAJ rfl ?_|apply zAM|apply en_r
  all_goals first|rfl|omega|skip
 |some t =>
  obtain⟨l1,l2,l3,l4⟩:=hL t hl
  clear hL
  obtain⟨wo,us,al,ly,stk,c,ca,tr,fi,nu,ou,sp⟩:=s
  dsimp only at *
  have hp:0<tr.length:=by cases tr with
   |nil=>cases hl
   |cons=>simp
  have ei:((tr.length:Int)-1).toNat=tr.length-1:=by omega
  have ht:tr[((tr.length:Int)-1).toNat]?=some t:=by rw[ei,<-qBG];exact hl
  have ed:tr.dropLast=tr.take ((tr.length:Int)-1).toNat:=by rw[ei,qBF]
  have hcp:((ca.take t.calls.toNat).map clD).length*32<=140737488355328/\((ca.take t.calls.toNat).map clD).length<=140737488355328:=by rw[qAC,qAG];omega
  have hc1:(0+((stk.take t.height.toNat).map rfD).length)*16<=140737488355328/\0+((stk.take t.height.toNat).map rfD).length<=140737488355328:=by rw[qAC,qAG];omega
  have hc2:(0+((stk.take t.height.toNat).map rfD).length+1)*16<=140737488355328/\0+((stk.take t.height.toNat).map rfD).length+1<=140737488355328:=by rw[qAC,qAG];omega
  have ha:(stk.take t.height.toNat++[numR n]).map rfD=(stk.take t.height.toNat).map rfD++[rfD (numR n)]:=qAU
  rw[ed]
  generalize numR n=r at *
  unfold smD
  dsimp only
  rw[ha]
  unfold rfD at hN
  have er:rfD r=.agg [bl (rN r),i64 (rV r)]:=rfl
  rw[er]
  skip
  repeat' first|(refine zCi (id:=9) ?_)|apply en_n|apply zAE|apply zAA|apply zAB|apply w0|(refine zC9 zEv zEP zJl rfl)|(refine zEH rfl (zA0 rfl) zEv zEP zKq zKv (fun d hd=>by obtain⟨c,_,rfl⟩:=qA5.1 hd;rfl) hcp)|(apply zJ6 (hd:=rfl) (hro:=rfl);(with_reducible exact zBa);(with_reducible exact zBC);(with_reducible exact zDD);exact rfl)|refine aApA (id:=3) ?_ ?_|exact ycA zFZ hN|refine aJA ?_|refine aBoA ?_|refine aAlA ?_|refine ayA rfl ?_|refine ayQ rfl ?_|refine ayL rfl ?_|apply ay (hd:=rfl)|refine zCe rfl rfl ?_|(apply zGm;(first|exact zA0 rfl|exact zBX rfl rfl rfl|exact Co_nn rfl);(with_reducible first|exact zEP|exact zEw|exact zBC);exact rfl;exact fun _=>rfl)|(refine w0' ?_)|refine aStA ?_|refine zAI rfl ?_|apply zAP
  all_goals first|rfl|omega|(simp only[qAN,qAj];omega)|skip
  refine Stop.go ?_
  refine zCb 0 5 rfl rfl (zDr rfl (by simp)) ?_
  repeat' first|apply en_n|apply zAE|apply zAA|apply zAB|apply w0|(refine zAX ?_)|(refine zAu ?_)|exact zA5|(refine RV_c rfl rfl zAV rfl rfl ?_ ?_)|refine ayA rfl ?_|(refine w0' ?_)|refine aStA ?_|apply zAM
  all_goals first|rfl|skip
end
section
abbrev smC(m:Img)(s:St): List SV:=[.d (.slice (m.pool.map enCn)),.d (.slice (m.code.map enIn)),.d (i64 s.words),.d (i64 s.used),.d (.slice (s.all.map thD)),.d (.slice (s.stack.map rfD)),.d (i64 s.c.at_),.d (i64 s.c.base),.d (bl (rN s.c.fun_)),.d (i64 (rV s.c.fun_)),.d (.slice (s.calls.map clD)),.d (.slice (s.tries.map tyD)),.d (i64 s.fin),.d (i64 s.num),.d (.slice (s.out.map str)),.d (i64 s.steps)]
abbrev smZ: List SV:=List.map cst [Value.slice none 0 0,Value.slice none 0 0,Value.int IntKind.i64 0,Value.int IntKind.i64 0,Value.slice none 0 0,Value.slice none 0 0,Value.int IntKind.i64 0,Value.int IntKind.i64 0,Value.bool false,Value.int IntKind.i64 0,Value.slice none 0 0,Value.slice none 0 0,Value.int IntKind.i64 0,Value.int IntKind.i64 0,Value.slice none 0 0,Value.int IntKind.i64 0]
abbrev apB(m:Img)(s:St)(f a:Rf): List Ob:=[.box (smC m s),.box smZ,.box [.d (bl (rN f)),.d (i64 (rV f))],.box [.d (bl (rN a)),.d (i64 (rV a))]]
abbrev apS(tl:Bool): Sl:=[(1,.d (bl tl)),(2,.ptr 0 0),(4,.ptr 1 0),(5,.ptr 2 0),(6,.ptr 3 0)]
attribute [local irreducible] zAL Program.underlying Ylds zA2 alex zBZ zBP awp zAb zBh zBg zAW zBF zAp zCO zBG zBR zAr zBV zBY zBe zCQ zBM zA8 zBE JFit
theorem zYS(m:Img)(s:St)(tl:Bool)(h2:2<=s.stack.length)(hS:Sml s)(wb:World)(St0:Stab)(Q:Exit->Sl->List Ob->Prop)
  (h:awp ⟨prog,68,wb,St0,fun _=>False,0⟩ (zEX 2 (zCw Tryz.f63)) Q (apS tl) (apB m s (s.top 1) (s.top 0))) :
  awp ⟨prog,68,wb,St0,fun _=>False,0⟩ (zCw Tryz.f63) Q (zPC [smD m s,bl tl] 0) []:=by
 have hT1:=zFB m s 1 (by omega) hS
 have hT0:=zFB m s 0 (by omega) hS
 replace hT1:zAb prog 31 [smD m s,i64 1] (rfD (s.top 1)):=hT1
 replace hT0:zAb prog 31 [smD m s,i64 0] (rfD (s.top 0)):=hT0
 generalize s.top 1=f at *
 generalize s.top 0=a at *
 unfold smD rfD at *
 conv at h=>arg 2;whnf
 conv=>arg 2;whnf
 skip
 repeat' first|(refine zCi (id:=1) ?_)|apply en_n|apply zAE|apply zAA|apply zAB|apply w0|refine aBoA ?_|refine aAlA ?_
 refine Stop.go ?_
 refine zAE ?_
 refine zHF (id:=1) [.y (.d (smD m s)),.y (.d (.agg [bl (rN f),i64 (rV f)])),.y (.d (smD m s)),.y (.d (.agg [bl (rN a),i64 (rV a)])),.mk ⟨5,[.bool false,.int .i64 0],78,[.d (bl (rN f)),.d (i64 (rV f))]⟩ (some 6),.mk ⟨6,[.bool false,.int .i64 0],78,[.d (bl (rN a)),.d (i64 (rV a))]⟩ (some 7),.st 4 ⟨5,[.bool false,.int .i64 0],78,[.d (bl (rN f)),.d (i64 (rV f))]⟩,.st 5 ⟨6,[.bool false,.int .i64 0],78,[.d (bl (rN a)),.d (i64 (rV a))]⟩] (by kernel_rfl) (by kernel_rfl) (.inl (by kernel_rfl)) ⟨⟨rfl,zAT rfl zAV rfl rfl rfl⟩,rfl,⟨rfl,zAR zBw hT1 (zAN rfl (zAN rfl zAH))⟩,rfl,⟨rfl,zAT rfl zAV rfl rfl rfl⟩,rfl,⟨rfl,zAR zBw hT0 (zAN rfl (zAN rfl zAH))⟩,rfl,⟨rfl,rfl,rfl,zCt,by kernel_rfl,rfl⟩,rfl,⟨rfl,rfl,rfl,zCt,by kernel_rfl,rfl⟩,rfl,⟨⟨_,_,_,_,_,rfl,rfl,rfl,zA7,rfl⟩,rfl,rfl,rfl,rfl,rfl⟩,⟨⟨_,_,_,_,_,rfl,rfl,rfl,zA7,rfl⟩,rfl,rfl,rfl,rfl,rfl⟩,trivial⟩ ?_
 refine zAB ?_
 refine en_n ?_
 refine zBW ?_ h
 exact zAU (Le_all rfl) (zAK rfl rfl (zD5 rfl zDA (zD5 rfl zDA (zD5 rfl zDA zAe)))) rfl rfl
end
section
structure ThOk(all:List Thing): Prop extends NeOk all where
 txt:∀o∈all,o.text.length<=1000000
theorem zUi{o:Thing}(h1:o.text.length<=1000000)(h2:o.parts.length<=1000000): o.need<=2000000:=by unfold Thing.need;split <;> omega
theorem zTa(all:List Thing){l:List Nat}{k i:Nat}(h:l[k]?=some i): sumN all (l.take (k+1))=sumN all (l.take k)+(all.getD i default).need:=by
 unfold sumN
 rw[qA7,h,qAU,List.sum_append];simp
theorem zTb{all:List Thing}(hA:ThOk all): ∀{l:List Nat},(∀i∈l,i<all.length)->sumN all l<=l.length*2000000
 |[],_=>qAQ _
 |i::r,h=>by
  have hi:=h i (by simp)
  have h1:=zTb hA (l:=r) fun j hj=>h j (qAi _ hj)
  have h2:(all.getD i default).need<=2000000:=by
   rw[qAD,qAB hi]
   exact zUi (hA.txt _ (qA8 hi)) (hA.few _ (qA8 hi))
  unfold sumN at *
  rw[qAr,List.sum_cons,qAN,Nat.succ_mul];omega
theorem zQl{all:List Thing}(hP:zJ7 all): ∀(f:Nat) {out:List Nat} (k:Nat),Fnd all out->Fnd all (zHM all f out k)
 |0,_,_,h=>h
 |f+1,out,k,h=>by
  rw[zHM]
  cases e:out[k]? with
  |none=>exact h
  |some i =>
   have hi:=h.lt i (qAF e)
   refine zQl hP f (k+1) (h.add fun r hr=>?_)
   rw[qAD,qAB hi]at hr
   exact hP _ (qA8 hi) r hr
attribute [local irreducible] zAL Program.underlying Ylds zA2 alex zBZ zBP awp zAb zBh zBg zAW zBF zAp zCO zBG zBR zAr zBV zBY zBe zCQ zBM zA8 zBE
theorem zYB(w u:Int)(all:List Thing)(roots:List Rf)(hA:ThOk all)(hR:roots.length<=1000000)(hr:∀r∈roots,RfIn all.length r): zAb prog 106 [hpD w u all,.slice (roots.map rfD)] (i64 (live all roots:Int)):=by
 have hN:=zSo w u all roots hA.toNeOk hR hr
 have hF:Fnd all (zDd all roots):=zQl hA.parts _ 0 (Fnd.add ⟨List.nodup_nil,fun i h=>by cases h⟩ hr)
 have hal:=hA.len
 refine zAj func106 rfl ntmps106 results106 rfl ?_
 intro wb St0
 unfold live
 generalize zDd all roots=l at *
 have hll:=hF.len
 unfold hpD at *
 repeat' first|apply en_n|apply zAE|apply zAA|apply zAB|apply w0|exact ycA zLa hN|refine aBoA ?_|refine ayA rfl ?_|apply ay (hd:=rfl)|apply zAO
 refine zBA (α:=Nat) (fun k=>k<=l.length) (fun k=>[(2,.ptr 0 0),(5,.d (i64 (sumN all (l.take k):Int))),(6,.d (.slice (l.map nI))),(7,.d (i64 (k:Int)))]) (fun _=>[.box [.d (i64 w),.d (i64 u),.d (.slice (all.map thD))]]) (fun k=>l.length-k) 0 (qAQ _) (zAU (Le_all rfl) (zAK rfl rfl zAe) rfl rfl) ?_
 intro k hk
 have hsl:=zTb hA (l:=l.take k) fun i hi=>hF.lt i (qAW hi)
 rw[qAG]at hsl
 have hsb:sumN all (l.take k)<=1000000*2000000:=qAu hsl (qAh _ (by omega))
 by_cases hkl:k<l.length
 ·obtain⟨j,hj⟩:∃j,l[k]?=some j:=⟨_,qAB hkl⟩
  have hjl:=hF.lt j (qAF hj)
  obtain⟨o,ho⟩:∃o,all[j]?=some o:=⟨_,qAB hjl⟩
  have hom:=qAF ho
  have hg:all.getD j default=o:=by rw[qAD,ho];rfl
  have hst:=zTa all hj
  rw[hg]at hst
  have hD:=zRR o (hA.txt o hom) (hA.few o hom)
  have hnl:=zUi (hA.txt o hom) (hA.few o hom)
  unfold thD at hD
  have hjj:(l.map nI)[((k:Nat):Int).toNat]?=some (.val (.int .i64 (j:Int))):=by
   show (l.map nI)[k]?=_
   rw[qAH,hj];rfl
  have hoo:(all.map thD)[((j:Nat):Int).toNat]?=some (.agg [i64 o.kind,i64 o.tag,str o.text,.slice (o.parts.map rfD)]):=by
   show (all.map thD)[j]?=_
   rw[qAH,ho];rfl
  skip
  repeat' first|apply en_n|apply zAE|apply zAA|apply zAB|apply w0|exact ycA zFy hD|refine aJA ?_|refine ayA rfl ?_|refine ayQ rfl ?_|apply ay (hd:=rfl)|refine zBp rfl rfl ?_|refine zAJ rfl ?_|apply zAO|apply zAP|refine awDA ?_|apply eb_n
  all_goals first|omega|(rw[qAC];omega)|skip
  refine⟨k+1,hkl,by omega,?_⟩
  rw[hst]
  exact zAU (Le_all rfl) (zA4 _) rfl rfl
 ·have hkk:l.take k=l:=qAe (by omega)
  rw[hkk]
  skip
  exact yK
theorem zVK(m:Img)(s:St)(hS:Sml s): zAb prog 107 [smD m s] (.slice (s.roots.map rfD)):=by
 have h1:=hS.stack
 have h2:=hS.calls
 have h3:=hS.tries
 refine zAj func107 rfl ntmps107 results107 rfl ?_
 intro wb St0
 have hcp:(0+(s.stack.map rfD).length)*16<=140737488355328/\0+(s.stack.map rfD).length<=140737488355328:=by rw[qAC];omega
 have hc1:(0+(s.stack.map rfD).length+1)*16<=140737488355328/\0+(s.stack.map rfD).length+1<=140737488355328:=by rw[qAC];omega
 let X:List SV:=[.d (.slice (m.pool.map enCn)),.d (.slice (m.code.map enIn)),.d (i64 s.words),.d (i64 s.used),.d (.slice (s.all.map thD)),.d (.slice (s.stack.map rfD)),.d (i64 s.c.at_),.d (i64 s.c.base),.d (bl (rN s.c.fun_)),.d (i64 (rV s.c.fun_)),.d (.slice (s.calls.map clD)),.d (.slice (s.tries.map tyD)),.d (i64 s.fin),.d (i64 s.num),.d (.slice (s.out.map str)),.d (i64 s.steps)]
 have e0:0+(s.stack.map rfD).length+1=(s.stack++s.c.fun_::((s.calls.take 0).map (·.fun_))).length:=by simp
 unfold smD
 repeat' first|apply en_n|apply zAE|apply zAA|apply zAB|apply w0|(apply zJ6 (hd:=rfl) (hro:=rfl);(with_reducible exact zBa);(with_reducible exact zBC);(with_reducible exact zDD);exact rfl)|refine aApA (id:=1) ?_ ?_|refine aBoA ?_|refine ayA rfl ?_|refine ayL rfl ?_|apply zAO
 all_goals first|exact hcp|exact hc1|(simp only[qAC,qAN,qAj];omega)|skip
 refine zBA (α:=Nat) (fun i=>i<=s.calls.length) (fun i=>[(1,.ptr 0 0),(3,.buf 1 (s.stack++s.c.fun_::(s.calls.take i).map (·.fun_)).length),(4,.d (i64 (i:Int)))]) (fun i=>[.box X,.buf false 78 2 ((s.stack++s.c.fun_::(s.calls.take i).map (·.fun_)).map rfD)]) (fun i=>s.calls.length-i) 0 (qAQ _) (zAU (Le_cons rfl (Le_cons (congrArg (SV.buf 1) e0) (Le_all rfl))) (zAK rfl rfl (zAK rfl (congrArg (Ob.buf false _ 2) (by rw[qAU];rfl)) zAe)) rfl rfl) ?_
 intro i hi
 have hlen:∀(A B:List Rf) (r:Rf),(s.stack++r::(A++B)).length=s.stack.length+1+A.length+B.length:=fun A B r=>by simp;omega
 by_cases hil:i<s.calls.length
 ·obtain⟨c,hc⟩:∃c,s.calls[i]?=some c:=⟨_,qAB hil⟩
  have hcc:s.calls[((i:Nat):Int).toNat]?=some c:=hc
  have htk:s.stack++s.c.fun_::(s.calls.take (i+1)).map (·.fun_)=(s.stack++s.c.fun_::(s.calls.take i).map (·.fun_))++[c.fun_]:=by
   rw[qA7,hc,qAU,qAg];rfl
  have hle:(s.stack++s.c.fun_::(s.calls.take i).map (·.fun_)).length<=3000001:=by
   rw[qAE,qAN,qAC,qAG];omega
  generalize s.stack++s.c.fun_::(s.calls.take i).map (·.fun_)=L at *
  have hcl:(L.length+1)*16<=140737488355328/\L.length+1<=140737488355328:=by omega
  skip
  repeat' first|apply en_n|apply zAE|apply zAA|apply zAB|apply w0|refine aApA (id:=1) ?_ ?_|refine aJA ?_|refine ayA rfl ?_|refine ayQ rfl ?_|refine ayL rfl ?_|apply ay (hd:=rfl)|refine zBp rfl rfl ?_|refine zAJ rfl ?_|apply zAO|apply zAP|apply eb_n
  all_goals first|omega|exact hcl|(rw[qAC])|skip
  refine⟨i+1,hil,by omega,?_⟩
  rw[htk]
  exact zAU (Le_cons rfl (Le_cons (by rw[qAE];rfl) (Le_all rfl))) (zAK rfl rfl (zAK rfl (congrArg (Ob.buf false _ 2) (by rw[qAU];rfl)) zAe)) rfl rfl
 ·have hii:s.calls.take i=s.calls:=qAe (by omega)
  rw[hii]
  have hle:(s.stack++s.c.fun_::s.calls.map (·.fun_)).length<=3000001:=by
   rw[qAE,qAN,qAC];omega
  have hro:s.roots=(s.stack++s.c.fun_::s.calls.map (·.fun_))++s.tries.map (·.c.fun_):=by
   unfold St.roots;rw[qAg];rfl
  rw[hro]
  clear hro hii
  generalize s.stack++s.c.fun_::s.calls.map (·.fun_)=L at *
  have e1:L.length=(L++(s.tries.take 0).map (·.c.fun_)).length:=by simp
  skip
  repeat' first|apply en_n|apply zAE|apply zAA|apply zAB|apply w0|refine ayA rfl ?_|refine ayQ rfl ?_|refine zAI rfl ?_|apply zAO|apply zBH|apply en_e|apply eb_e
  all_goals first|omega|(rw[qAC];omega)|skip
  refine zBA (α:=Nat) (fun i=>i<=s.tries.length) (fun i=>[(1,.ptr 0 0),(3,.buf 1 (L++(s.tries.take i).map (·.c.fun_)).length),(5,.d (i64 (i:Int)))]) (fun i=>[.box X,.buf false 78 2 ((L++(s.tries.take i).map (·.c.fun_)).map rfD)]) (fun i=>s.tries.length-i) 0 (qAQ _) (zAU (Le_cons rfl (Le_cons (congrArg (SV.buf 1) e1) (Le_all rfl))) (zAK rfl rfl (zAK rfl (congrArg (Ob.buf false _ 2) (by rw[List.take_zero,qBf,qBC])) zAe)) rfl rfl) ?_
  intro i hi
  by_cases hil:i<s.tries.length
  ·obtain⟨c,hc⟩:∃c,s.tries[i]?=some c:=⟨_,qAB hil⟩
   have hcc:s.tries[((i:Nat):Int).toNat]?=some c:=hc
   have htk:L++(s.tries.take (i+1)).map (·.c.fun_)=(L++(s.tries.take i).map (·.c.fun_))++[c.c.fun_]:=by
    rw[qA7,hc,qAU,qAg];rfl
   have hle2:(L++(s.tries.take i).map (·.c.fun_)).length<=5000001:=by
    rw[qAE,qAC,qAG];omega
   generalize L++(s.tries.take i).map (·.c.fun_)=L2 at *
   have hcl:(L2.length+1)*16<=140737488355328/\L2.length+1<=140737488355328:=by omega
   skip
   repeat' first|apply en_n|apply zAE|apply zAA|apply zAB|apply w0|refine aApA (id:=1) ?_ ?_|refine aJA ?_|refine ayA rfl ?_|refine ayQ rfl ?_|refine ayL rfl ?_|apply ay (hd:=rfl)|refine zBp rfl rfl ?_|refine zAJ rfl ?_|apply zAO|apply zAP|apply eb_n
   all_goals first|omega|exact hcl|(rw[qAC])|skip
   refine⟨i+1,hil,by omega,?_⟩
   rw[htk]
   exact zAU (Le_cons rfl (Le_cons (by rw[qAE];rfl) (Le_all rfl))) (zAK rfl rfl (zAK rfl (congrArg (Ob.buf false _ 2) (by rw[qAU];rfl)) zAe)) rfl rfl
  ·have hii:s.tries.take i=s.tries:=qAe (by omega)
   rw[hii]
   generalize L++s.tries.map (·.c.fun_)=L2 at *
   skip
   repeat' first|apply en_n|apply zAE|apply zAA|apply zAB|apply w0|exact zBm rfl rfl|(apply zaO;exact rfl;exact rfl;exact(qAC _).symm)|apply ay (hd:=rfl)|exact zAD rfl|exact zAn rfl zKu|exact zAl rfl|exact zAf rfl|exact zAF rfl zFU|exact zAG rfl zGB rfl rfl|refine zAI rfl ?_|apply zAM|apply zBH|apply en_e|apply eb_e|apply zAS
   all_goals first|omega|rfl|(rw[qAC];omega)|exact(qAC _).symm|skip
end
section
structure MSml(s:St): Prop extends Sml s where
 th:ThOk s.all
 ro:∀r∈s.roots,RfIn s.all.length r
 few:s.all.length+1<=1000000
 lens:s.stack.length<=5000/\s.calls.length<=5000/\s.tries.length<=100000
 wd:0<=s.words/\s.words<=1000000000
 us:0<=s.used/\s.used<=1000000000
 lv:(live s.all s.roots:Int)<=1000000000
theorem zTy(s:St): s.roots.length=s.stack.length+1+s.calls.length+s.tries.length:=by
 unfold St.roots;simp;omega
attribute [local irreducible] zAL Program.underlying Ylds zA2 alex zBZ zBP awp zAb zBh zBg zAW zBF zAp zCO zBG zBR zAr zBV zBY zBe zCQ zBM zA8 zBE
theorem zJb(m:Img)(s:St)(o:Thing)(n:Nat)(hM:MSml s)(hn:n<=s.stack.length)(ht:o.text.length<=1000000)(hp:o.parts.length<=1000000): zAb prog 59 [smD m s,thD o,i64 (n:Int)] (smD m (s.block o n)):=by
 have hS:=hM.toSml
 obtain⟨hl1,hl2,hl3⟩:=hM.lens
 have hH:=zRQ m s (1-(n:Int)) (by omega) hS
 have hT6:=zDX m s 6
 have hR:=zVK m s hS
 have hrl:=zTy s
 have hL:=zYB s.words s.used s.all s.roots hM.th (by omega) hM.ro
 have hlv:=hM.lv
 have hP:=zVN s.words s.used s.all o hM.wd hM.us hS.all_ ht hp
 have hP2:=zVN s.words (live s.all s.roots:Int) s.all o hM.wd ⟨by omega,hlv⟩ hS.all_ ht hp
 have hT5:=zDX m { s with used:=(live s.all s.roots:Int) } 5
 have hI1:=zEF m { s with used:=s.used+(o.need:Int),all:=s.all++[o] } n (.b s.all.length) hn ⟨hS.stack,hS.calls,hS.tries,by rw[qAE];exact hM.few,hS.out⟩
 have hI2:=zEF m { s with used:=(live s.all s.roots:Int)+(o.need:Int),all:=s.all++[o] } n (.b s.all.length) hn ⟨hS.stack,hS.calls,hS.tries,by rw[qAE];exact hM.few,hS.out⟩
 have hb:∀u:Int,(s.words-u<(o.need:Int))\/¬(s.words-u<(o.need:Int)):=fun u=>by omega
 have hZ:rfD (.b s.all.length)=.agg [bl false,i64 (s.all.length:Int)]:=rfl
 have hz0:rfD (numR 0)=.agg [bl true,i64 0]:=rfl
 unfold putD at hP hP2
 refine zB0 func59 rfl ntmps59 results59 rfl ?_
 intro wb St0
 unfold St.block St.gc St.alloc St.new
 have hA:(s.all++[o]).map thD=s.all.map thD++[thD o]:=qAU
 cases hh:s.high (1-(n:Int))
 ·rw[hh]at hH
  simp only[qBK,if_false]
  by_cases h1:s.words-s.used<(o.need:Int)
  ·rw[if_pos h1]at hP
   rw[if_pos h1]
   by_cases h2:s.words-(live s.all s.roots:Int)<(o.need:Int)
   ·rw[if_pos h2]at hP2
    rw[if_pos h2]
    clear hI1 hI2 hb hT6 hA hZ hM hS
    rw[hz0]at hP hP2
    clear hz0
    unfold smD hpD thD at *
    dsimp only at *
    generalize (live s.all s.roots:Int)=lv at *
    skip
    exact yA
   ·rw[if_neg h2]at hP2
    rw[if_neg h2]
    clear hI1 hT5 hb hT6 hM hS
    rw[hz0]at hP
    rw[hZ]at hP2 hI2
    clear hz0 hZ
    unfold smD hpD at *
    dsimp only at *
    rw[hA]at hP2 hI2
    unfold thD at *
    generalize (live s.all s.roots:Int)=lv at *
    skip
    exact yA
  ·rw[if_neg h1]at hP
   rw[if_neg h1,if_neg h1]
   clear hI2 hP2 hT5 hb hT6 hM hS hR hL
   rw[hZ]at hP hI1
   clear hz0 hZ
   unfold smD hpD at *
   dsimp only at *
   rw[hA]at hP hI1
   unfold thD at *
   skip
   exact yH
 ·rw[hh]at hH
  simp only[if_true]
  clear hP hP2 hL hI1 hI2 hT5 hR
  generalize s.stop 6=s' at *
  unfold smD thD at *
  skip
  exact yH
