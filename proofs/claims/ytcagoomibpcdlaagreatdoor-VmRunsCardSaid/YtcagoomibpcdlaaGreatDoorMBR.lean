import Derived.Test.YtcagoomibpcdlaaGreatDoorMBI
set_option maxHeartbeats 16000000
namespace Go.Proofs.YtcagoomibpcdlaaGreatDoor
open Go.Sx Go.Vm
section
open _root_.Go.Proofs.Tryz
def nI(i:Nat): D:=i64 (i:Int)
def inI(l:List Nat)(n:Nat): Int:=if n∈l then(l.idxOf n:Int)else -1
theorem zUu(l:List Nat)(n:Nat): inI l n<0↔n∉l:=by
 unfold inI;split
 ·rename_i h;constructor
  ·intro h2;omega
  ·intro h2;exact absurd h h2
 ·rename_i h;exact⟨fun _=>h,fun _=>by omega⟩
attribute [local irreducible] zAL Program.underlying Ylds zA2 alex zBZ zBP awp zAb zBh zBg zAW zBF zAp zCO zBG zBR zAr zBV zBY zBe zCQ zBM zA8 zBE
theorem zRR(o:Thing)(ht:o.text.length<=1000000)(hp:o.parts.length<=1000000): zAb prog 139 [thD o] (i64 (o.need:Int)):=by
 refine zAj func139 rfl ntmps139 results139 rfl ?_
 intro wb St0
 unfold thD Thing.need
 by_cases hk:o.kind=4
 ·rw[if_pos hk]
  have hq:IntKind.i64.wrap (((o.text.length:Int)+7).tdiv 8)=((o.text.length:Int)+7) / 8:=by rw[zD3,Int.tdiv_eq_ediv_of_nonneg (by omega)];omega
  skip
  repeat' first|apply en_n|apply zAE|apply zAA|apply zAB|apply w0|(apply zD2;exact rfl;with_reducible exact ustr)|(apply zQI;exact rfl;exact rfl;exact(by decide))|refine aBoA ?_|refine ayA rfl ?_|refine ayQ rfl ?_|apply ay (hd:=rfl)|refine zBp rfl rfl ?_|refine zAJ rfl ?_|apply zAM|apply en_r|apply zAS|refine res1 rfl ?_
  all_goals try rw[hq]
  all_goals first|omega|(refine congrArg D.val (congrArg (Value.int .i64) ?_);omega)|rfl|skip
 ·rw[if_neg hk]
  skip
  repeat' first|apply en_n|apply zAE|apply zAA|apply zAB|apply w0|refine aBoA ?_|refine ayA rfl ?_|refine ayQ rfl ?_|apply ay (hd:=rfl)|refine zBp rfl rfl ?_|refine zAI rfl ?_|apply zAP|apply zAM|apply zAS|refine res1 rfl ?_
  all_goals first|omega|(refine congrArg D.val (congrArg (Value.int .i64) ?_);omega)|rfl|skip
theorem zY5(l:List Nat)(n:Nat)(hl:l.length<=1000000): zAb prog 162 [.slice (l.map nI),i64 (n:Int)] (i64 (inI l n)):=by
 refine zAj func162 rfl ntmps162 results162 rfl ?_
 intro wb St0
 repeat' first|apply en_n|apply zAE|apply zAA|apply zAB|apply w0|refine ayA rfl ?_|apply zAO
 refine zBA (α:=Nat) (fun k=>k<=l.length/\n∉l.take k) (fun k=>[(0,.d (.slice (l.map nI))),(1,.d (i64 (n:Int))),(5,.d (i64 (k:Int)))]) (fun _=>[]) (fun k=>l.length-k) 0 ⟨qAQ _,by simp⟩ (zAU (Le_all rfl) zAe rfl rfl) ?_
 rintro k ⟨hk,hnk⟩
 by_cases hkl:k<l.length
 ·obtain⟨x,hx⟩:∃x,l[k]?=some x:=⟨_,qAB hkl⟩
  have hx2:l[((k:Nat):Int).toNat]?=some x:=hx
  have htk:l.take (k+1)=l.take k++[x]:=by rw[qA7,hx];rfl
  unfold nI
  by_cases he:x=n
  ·subst he
   have hin:inI l x=(k:Int):=by
    have hm:x∈l:=qAF hx
    have hi:l.idxOf x=k:=by
     have e:l=l.take k++x::l.drop (k+1):=by
      have:=qA9 hkl
      rw[qAB hkl]at hx
      injection hx with hx
      rw[hx]at this
      rw[<-this,qBV]
     rw[e,List.idxOf_append,if_neg hnk,List.idxOf_cons_self,qAG];omega
    unfold inI;rw[if_pos hm,hi]
   rw[hin]
   skip
   exact yM
  ·skip
   repeat' first|apply en_n|apply zAE|apply zAA|apply zAB|apply w0|refine aJA ?_|refine ayA rfl ?_|refine ayQ rfl ?_|apply ay (hd:=rfl)|refine zBp rfl rfl ?_|refine zAJ rfl ?_|refine zAI rfl ?_|apply zAO|apply zAP|apply eb_n
   all_goals first|omega|skip
   exact⟨k+1,⟨hkl,by rw[htk,qAc,qAM];rintro(h|h);exact hnk h;exact he h.symm⟩,by omega,zAU (Le_all rfl) zAe rfl rfl⟩
 ·have hno:n∉l:=by rw[qAe (by omega)]at hnk;exact hnk
  have hin:inI l n = -1:=by unfold inI;rw[if_neg hno]
  rw[hin]
  skip
  exact yK
end
section
def RfIn(n:Nat)(r:Rf): Prop:=∀i,r=.b i->i<n
theorem addN_app: ∀(rs qs:List Rf) (out:List Nat),addN out (rs++qs)=addN (addN out rs) qs
 |[],_,_=>rfl
 | .n _::r,qs,out=>by rw[qBk,addN,addN];exact addN_app r qs out
 | .b i::r,qs,out=>by
  rw[qBk,addN,addN]
  split
  ·exact addN_app r qs out
  ·exact addN_app r qs _
theorem zNd{n:Nat}: ∀(rs:List Rf) {out:List Nat},(∀i∈out,i<n)->(∀r∈rs,RfIn n r)->∀i∈addN out rs,i<n
 |[],_,h,_=>h
 | .n _::r,out,h,hr=>by rw[addN];exact zNd r h fun x hx=>hr x (qAi _ hx)
 | .b i::r,out,h,hr=>by
  rw[addN]
  split
  ·exact zNd r h fun x hx=>hr x (qAi _ hx)
  ·refine zNd r (fun j hj=>?_) fun x hx=>hr x (qAi _ hx)
   rcases qAc.1 hj with h1|h1
   ·exact h j h1
   ·rw[qAM]at h1;subst h1;exact hr (.b j) (by simp) j rfl
theorem zNc: ∀(rs:List Rf) {out:List Nat},out.Nodup->(addN out rs).Nodup
 |[],_,h=>h
 | .n _::r,out,h=>by rw[addN];exact zNc r h
 | .b i::r,out,h=>by
  rw[addN]
  split
  ·exact zNc r h
  ·refine zNc r (List.nodup_append.2 ⟨h,by simp,fun a ha b hb e=>?_⟩)
   rw[qAM]at hb;subst hb;subst e;contradiction
theorem nodup_len{n:Nat}{l:List Nat}(h:l.Nodup)(hl:∀i∈l,i<n): l.length<=n:=by
 have:=List.Nodup.length_le_of_subset h (l₂:=List.range n) (fun i hi=>qBN.2 (hl i hi))
 rwa [List.length_range]at this
structure Fnd(all:List Thing)(out:List Nat): Prop where
 nd:out.Nodup
 lt:∀i∈out,i<all.length
theorem Fnd.len{all:List Thing}{out:List Nat}(h:Fnd all out): out.length<=all.length:=nodup_len h.nd h.lt
theorem Fnd.add{all:List Thing}{out:List Nat}(h:Fnd all out){rs:List Rf}(hr:∀r∈rs,RfIn all.length r): Fnd all (addN out rs):=⟨zNc rs h.nd,zNd rs h.lt hr⟩
def zJ7(all:List Thing): Prop:=∀o∈all,∀r∈o.parts,RfIn all.length r
open _root_.Go.Proofs.Tryz
abbrev neB(w u:Int)(all:List Thing)(out:List Nat): List Ob:=[.box [.d (i64 w),.d (i64 u),.d (.slice (all.map thD))],.buf false 3 1 (out.map nI)]
theorem addN_take(L:List Rf)(out:List Nat){i:Nat}{r:Rf}(h:L[i]?=some r): addN out (L.take (i+1))=addN (addN out (L.take i)) [r]:=by
 rw[qA7,h,addN_app];rfl
theorem zZC(out:List Nat)(j:Nat): addN out [.b j]=if j∈out then out else out++[j]:=by
 rw[addN];split <;> rfl
structure NeOk(all:List Thing): Prop where
 len:all.length<=1000000
 parts:zJ7 all
 few:∀o∈all,o.parts.length<=1000000
attribute [local irreducible] zAL Program.underlying Ylds zA2 alex zBZ zBP awp zAb zBh zBg zAW zBF zAp zCO zBG zBR zAr zBV zBY zBe zCQ zBM zA8 zBE
theorem zSo(w u:Int)(all:List Thing)(roots:List Rf)(hA:NeOk all)(hR:roots.length<=1000000)(hr:∀r∈roots,RfIn all.length r): zAb prog 140 [hpD w u all,.slice (roots.map rfD)] (.slice ((zDd all roots).map nI)):=by
 have hal:=hA.len
 refine zAj func140 rfl ntmps140 results140 rfl ?_
 intro wb St0
 unfold hpD
 repeat' first|apply en_n|apply zAE|apply zAA|apply zAB|apply w0|(apply zJ6 (hd:=rfl) (hro:=rfl);(with_reducible exact zBn);(with_reducible exact zBf);(with_reducible exact zET);exact rfl)|refine aBoA ?_|refine ayA rfl ?_|apply zAO
 have hF:∀i,Fnd all (addN [] (roots.take i)):=fun i=>Fnd.add ⟨List.nodup_nil,fun i h=>by cases h⟩ fun r h=>hr r (qAW h)
 refine zBA (α:=Nat) (fun i=>i<=roots.length) (fun i=>[(1,.d (.slice (roots.map rfD))),(2,.ptr 0 0),(5,.buf 1 (addN [] (roots.take i)).length),(6,.d (i64 (i:Int)))]) (fun i=>neB w u all (addN [] (roots.take i))) (fun i=>roots.length-i) 0 (qAQ _) (zAU (Le_all rfl) (zAK rfl rfl (zAK rfl rfl zAe)) rfl rfl) ?_
 intro i hi
 by_cases hil:i<roots.length
 ·obtain⟨r,hr0⟩:∃r,roots[i]?=some r:=⟨_,qAB hil⟩
  have hr2:roots[((i:Nat):Int).toNat]?=some r:=hr0
  have hfi:=hF i
  have hfl:=hfi.len
  have hat:=addN_take roots [] hr0
  generalize addN [] (roots.take i)=out at *
  cases r with
  |n v =>
   have hat:addN [] (roots.take (i+1))=out:=hat
   skip
   repeat' first|apply en_n|apply zAE|apply zAA|apply zAB|apply w0|refine k1u (hd:=rfl) rfl rfl ?_|refine aJA ?_|refine ayA rfl ?_|refine ayQ rfl ?_|apply ay (hd:=rfl)|refine zBp rfl rfl ?_|refine zAJ rfl ?_|refine zAI rfl ?_|apply zAO|apply zAP|apply eb_n
   all_goals first|omega|skip
   refine⟨i+1,hil,by omega,?_⟩
   rw[hat]
   exact zAU (Le_all rfl) (zA4 _) rfl rfl
  |b j =>
   rw[zZC]at hat
   have hin:=zY5 out j (by omega)
   have hng:=zUu out j
   by_cases hj:j∈out
   ·rw[if_pos hj]at hat
    have hq:¬inI out j<0:=fun h=>(hng.1 h) hj
    skip
    repeat' first|apply en_n|apply zAE|apply zAA|apply zAB|apply w0|(refine zAR zHW hin (zEo rfl rfl (qAC _).symm (CoLA rfl)))|refine aJA ?_|refine ayA rfl ?_|refine ayQ rfl ?_|apply ay (hd:=rfl)|refine zBp rfl rfl ?_|refine w1 rfl rfl ?_|refine zAJ rfl ?_|refine zAI rfl ?_|apply zAO|apply zAP|apply eb_n
    all_goals first|omega|(rw[qAC])|skip
    refine⟨i+1,hil,by omega,?_⟩
    rw[hat]
    exact zAU (Le_all rfl) (zA4 _) rfl rfl
   ·rw[if_neg hj]at hat
    have hq:inI out j<0:=hng.2 hj
    skip
    repeat' first|apply en_n|apply zAE|apply zAA|apply zAB|apply w0|refine aApA (id:=1) ?_ ?_|(refine zAR zHW hin (zEo rfl rfl (qAC _).symm (CoLA rfl)))|refine aJA ?_|refine ayA rfl ?_|refine ayQ rfl ?_|refine ayL rfl ?_|apply ay (hd:=rfl)|refine zBp rfl rfl ?_|refine w1 rfl rfl ?_|refine zAJ rfl ?_|apply zAO|apply zAP|apply eb_n
    all_goals first|omega|(rw[qAC])|(simp only[qAN,qAj];omega)|skip
    refine⟨i+1,hil,by omega,?_⟩
    rw[hat]
    exact zAU (Le_cons rfl (Le_cons rfl (Le_cons (by rw[qAE];rfl) (Le_all rfl)))) (zAK rfl rfl (zAK rfl (congrArg (Ob.buf false _ 1) (by rw[qAU];rfl)) zAe)) rfl rfl
 ·have hii:roots.take i=roots:=qAe (by omega)
  have hf0:=hF i
  rw[hii]at hf0 ⊢
  skip
  repeat' first|apply en_n|apply zAE|apply zAA|apply zAB|apply w0|refine ayA rfl ?_|refine ayQ rfl ?_|refine zAI rfl ?_|apply zAO|apply zBH|apply en_e|apply eb_e
  all_goals first|omega|(rw[qAC];omega)|skip
  refine zBA (α:=Nat×List Nat) (fun x=>Fnd all x.2/\x.1<=x.2.length/\zHM all (all.length+1-x.1) x.2 x.1=zDd all roots) (fun x=>[(2,.ptr 0 0),(5,.buf 1 x.2.length),(7,.d (i64 (x.1:Int)))]) (fun x=>neB w u all x.2) (fun x=>all.length-x.1) (0,addN [] roots) ⟨hf0,qAQ _,rfl⟩ (zAU (Le_all rfl) (zA4 _) rfl rfl) ?_
  clear hF hf0 hii hil hi i
  rintro⟨k,out⟩ ⟨hf,hk,hs⟩
  dsimp only at hf hk hs ⊢
  have hol:=hf.len
  have hml:(out.map nI).length=out.length:=qAC _
  by_cases hkl:k<out.length
  ·obtain⟨j,hj⟩:∃j,out[k]?=some j:=⟨_,qAB hkl⟩
   have hjl:=hf.lt j (qAF hj)
   obtain⟨o,ho⟩:∃o,all[j]?=some o:=⟨_,qAB hjl⟩
   have hom:=qAF ho
   have hP:=hA.parts o hom
   have hpl:=hA.few o hom
   have hg:all.getD j default=o:=by rw[qAD,ho];rfl
   have hs2:zHM all (all.length+1-(k+1)) (addN out o.parts) (k+1)=zDd all roots:=by
    rw[<-hs,show all.length+1-k=(all.length-k)+1 by omega,zHM,hj]
    dsimp only
    rw[hg,show all.length+1-(k+1)=all.length-k by omega]
   have hat:(out.map nI)[((k:Nat):Int).toNat]?=some (i64 (j:Int)):=by
    show (out.map nI)[k]?=_
    rw[qAH,hj];rfl
   have hoo:(all.map thD)[((j:Nat):Int).toNat]?=some (.agg [i64 o.kind,i64 o.tag,str o.text,.slice (o.parts.map rfD)]):=by
    show (all.map thD)[j]?=_
    rw[qAH,ho];rfl
   have hF:∀i,Fnd all (addN out (o.parts.take i)):=fun i=>hf.add fun r h=>hP r (qAW h)
   skip
   repeat' first|apply en_n|apply zAE|apply zAA|apply zAB|apply w0|(apply zBQ;exact rfl;exact rfl;exact rfl;(with_reducible exact zBf);omega;exact qA2 hml.symm)|exact zCT rfl zAY rfl hat rfl|refine aJA ?_|refine ayA rfl ?_|refine ayQ rfl ?_|apply ay (hd:=rfl)|refine zAJ rfl ?_|apply zAO|apply zAP|refine awDA ?_
   all_goals first|omega|skip
   refine zBA (α:=Nat) (fun i=>i<=o.parts.length) (fun i=>[(2,.ptr 0 0),(5,.buf 1 (addN out (o.parts.take i)).length),(7,.d (i64 (k:Int))),(8,.d (.slice (o.parts.map rfD))),(9,.d (i64 (i:Int)))]) (fun i=>neB w u all (addN out (o.parts.take i))) (fun i=>o.parts.length-i) 0 (qAQ _) (zAU (Le_all rfl) (zA4 _) rfl rfl) ?_
   intro i hi
   by_cases hil:i<o.parts.length
   ·obtain⟨r,hr0⟩:∃r,o.parts[i]?=some r:=⟨_,qAB hil⟩
    have hr2:o.parts[((i:Nat):Int).toNat]?=some r:=hr0
    have hfi:=hF i
    have hfl:=hfi.len
    have hat2:=addN_take o.parts out hr0
    clear hs hs2 hat hoo hF hj
    generalize addN out (o.parts.take i)=ou at *
    cases r with
    |n v =>
     have hat2:addN out (o.parts.take (i+1))=ou:=hat2
     skip
     repeat' first|apply en_n|apply zAE|apply zAA|apply zAB|apply w0|refine k1u (hd:=rfl) rfl rfl ?_|refine aJA ?_|refine ayA rfl ?_|refine ayQ rfl ?_|apply ay (hd:=rfl)|refine zBp rfl rfl ?_|refine zAJ rfl ?_|refine zAI rfl ?_|apply zAO|apply zAP|apply eb_n
     all_goals first|omega|skip
     refine⟨i+1,hil,by omega,?_⟩
     rw[hat2]
     exact zAU (Le_all rfl) (zA4 _) rfl rfl
    |b q =>
     rw[zZC]at hat2
     have hin:=zY5 ou q (by omega)
     have hng:=zUu ou q
     by_cases hq0:q∈ou
     ·rw[if_pos hq0]at hat2
      have hq:¬inI ou q<0:=fun h=>(hng.1 h) hq0
      skip
      repeat' first|apply en_n|apply zAE|apply zAA|apply zAB|apply w0|(refine zAR zHW hin (zEo rfl rfl (qAC _).symm (CoLA rfl)))|refine aJA ?_|refine ayA rfl ?_|refine ayQ rfl ?_|apply ay (hd:=rfl)|refine zBp rfl rfl ?_|refine w1 rfl rfl ?_|refine zAJ rfl ?_|refine zAI rfl ?_|apply zAO|apply zAP|apply eb_n
      all_goals first|omega|skip
      refine⟨i+1,hil,by omega,?_⟩
      rw[hat2]
      exact zAU (Le_all rfl) (zA4 _) rfl rfl
     ·rw[if_neg hq0]at hat2
      have hq:inI ou q<0:=hng.2 hq0
      skip
      repeat' first|apply en_n|apply zAE|apply zAA|apply zAB|apply w0|refine aApA (id:=1) ?_ ?_|(refine zAR zHW hin (zEo rfl rfl (qAC _).symm (CoLA rfl)))|refine aJA ?_|refine ayA rfl ?_|refine ayQ rfl ?_|refine ayL rfl ?_|apply ay (hd:=rfl)|refine zBp rfl rfl ?_|refine w1 rfl rfl ?_|refine zAJ rfl ?_|apply zAO|apply zAP|apply eb_n
      all_goals first|omega|(rw[qAC])|(simp only[qAN,qAj];omega)|skip
      refine⟨i+1,hil,by omega,?_⟩
      rw[hat2]
      exact zAU (Le_cons rfl (Le_cons (by rw[qAE];rfl) (Le_all rfl))) (zAK rfl rfl (zAK rfl (congrArg (Ob.buf false _ 1) (by rw[qAU];rfl)) zAe)) rfl rfl
   ·have hii:o.parts.take i=o.parts:=qAe (by omega)
    have hfe:=hF i
    rw[hii]at hfe ⊢
    clear hat hoo hs hF
    skip
    repeat' first|apply en_n|apply zAE|apply zAA|apply zAB|apply w0|refine ayA rfl ?_|refine ayQ rfl ?_|apply ay (hd:=rfl)|refine zBp rfl rfl ?_|refine zAI rfl ?_|apply zBH|apply en_e|apply eb_n|apply eb_e
    all_goals first|omega|(rw[qAC];omega)|skip
    have hlt:k+1<=(addN out o.parts).length:=by
     have:∀(rs:List Rf) (l:List Nat),l.length<=(addN l rs).length:=by
      intro rs
      induction rs with
      |nil=>intro l;exact qAP _
      |cons r q ih =>
       intro l
       cases r with
       |n v=>exact ih l
       |b x =>
        rw[addN];split
        ·exact ih l
        ·exact qAu (by rw[qAE];exact Nat.le_add_right _ _) (ih _)
     exact qAu hkl (this _ _)
    exact⟨(k+1,addN out o.parts),⟨hfe,hlt,hs2⟩,by show all.length-(k+1)<all.length-k;omega,zAU (Le_all rfl) (zA4 _) rfl rfl⟩
  ·have hd:zDd all roots=out:=by
    rw[<-hs]
    cases hfu:all.length+1-k with
    |zero=>rfl
    |succ f=>rw[zHM,qBP.2 (by omega)]
   rw[hd]
   skip
   repeat' first|apply en_n|apply zAE|apply zAA|apply zAB|apply w0|exact zBm rfl rfl|refine zaO rfl rfl hml.symm ?_|apply ay (hd:=rfl)|exact zAD rfl|exact zAl rfl|exact zAf rfl|exact zAy rfl zCp|refine zAI rfl ?_|apply zAM|apply zBH|apply en_e|apply eb_e|apply zAS
   all_goals first|omega|rfl|exact hml.symm|(rw[qAC];omega)|skip
end
section
open _root_.Go.Proofs.Tryz
abbrev NxO(op:Int)(e:Img->Int->Int->VS->Eff): Prop:=∀(m:Img) (kn:Bool) {k a b:Int} {s:VS},NxAt m k ⟨op,a,b⟩ s->∀(wb:World) (St0:Stab) (Q:Exit->Sl->List Ob->Prop),
 awp ⟨prog,284,wb,St0,fun _=>False,0⟩ (zEX 7 (zCw Tryz.f56)) Q (nxS k s (e m a b s)) (nxB m kn s op a b)->
 awp ⟨prog,284,wb,St0,fun _=>False,0⟩ (zEX 6 (zCw Tryz.f56)) Q (nxS0 k s) (nxB m kn s op a b)
attribute [local irreducible] zAL Program.underlying Ylds zA2 alex zBZ zBP awp zAb zBh zBg zAW zBF zAp zCO zBG zBR zAr zBV zBY zBe zCQ zBM zA8 zBE JFit
theorem zJx: (NxO 1 fun m a _ _=>⟨0,1,decide (a<m.pool.length),true,false⟩)/\(NxO 2 fun _ a _ s=>⟨0,1,decide (a<s.height),true,false⟩)/\(NxO 4 fun _ _ _ s=>⟨0,1,decide (s.of>=0),true,false⟩)/\(NxO 5 fun _ a _ _=>⟨a,0,true,true,false⟩)/\(NxO 6 fun _ a _ _=>⟨a+1,1,true,true,false⟩)/\(NxO 7 fun _ _ _ _=>⟨2,1,true,true,false⟩)/\(NxO 11 fun _ a _ _=>⟨1,1,decide (a<=7),true,false⟩)/\(NxO 12 fun _ a _ _=>⟨takes a,1,decide (a<=13),true,false⟩)/\(NxO 13 fun _ _ _ _=>⟨1,0,true,false,false⟩)/\(NxO 15 fun _ _ _ _=>⟨0,0,true,false,true⟩)/\(NxO 16 fun _ _ _ _=>⟨1,0,true,true,true⟩)/\(NxO 17 fun _ _ _ _=>⟨0,0,true,true,false⟩)/\(NxO 18 fun _ _ b _=>⟨b,1,true,true,false⟩):=by
 refine⟨?_,?_,?_,?_,?_,?_,?_,?_,?_,?_,?_,?_,?_⟩
 all_goals
  intro m kn k a b s hd wb St0 Q h
  obtain⟨hk0,hat0,hbig,him,hh,htr⟩:=hd
  obtain⟨-,-,ha0,ha1,hb0,hb1,-⟩:=him.ins _ (qAF hat0)
  dsimp only at ha0 ha1 hb0 hb1 h
  clear hat0
 all_goals
  conv at h=>arg 2;whnf
  conv=>arg 2;whnf
  exact yO
theorem zUc: (NxO 0 fun _ _ _ s=>⟨1,0, !decide (s.of>=0)&&s.tries.isEmpty,false,false⟩)/\(NxO 3 fun _ a _ s=>⟨0,1,decide (s.of>=0)&&decide (a<s.has),true,false⟩)/\(NxO 8 fun _ _ _ s=>⟨2,0,decide (s.of>=0)&&s.tries.isEmpty,false,false⟩)/\(NxO 9 fun _ _ _ s=>⟨1,0,decide (s.of>=0)&&s.tries.isEmpty,false,false⟩)/\(NxO 14 fun _ _ _ s=>⟨0,0, !s.tries.isEmpty,true,false⟩):=by
 refine⟨?_,?_,?_,?_,?_⟩
 all_goals
  intro m kn k a b s hd wb St0 Q h
  obtain⟨hk0,hat0,hbig,him,hh,htr⟩:=hd
  obtain⟨-,-,ha0,ha1,hb0,hb1,-⟩:=him.ins _ (qAF hat0)
  dsimp only at ha0 ha1 hb0 hb1 h
  clear hat0
  revert h
  unfold nxS0
  generalize decide (s.of>=0)=fn
  generalize s.tries.isEmpty=free
  intro h
  cases fn <;> cases free
 all_goals
  conv at h=>arg 2;whnf
  conv=>arg 2;whnf
  exact yO
theorem zdA: (NxO 10 fun m a b _=>⟨b,1,zGS conF m a&&decide (b<=8),true,false⟩):=by
 all_goals
  intro m kn k a b s hd wb St0 Q h
  obtain⟨hk0,hat0,hbig,him,hh,htr⟩:=hd
  obtain⟨-,-,ha0,ha1,hb0,hb1,-⟩:=him.ins _ (qAF hat0)
  dsimp only at ha0 ha1 hb0 hb1 h
  clear hat0
  have hC:=zOI m him a ha0
  unfold zCs at hC
  revert h
  generalize zGS conF m a=ca at *
  intro h
  cases ca
 all_goals
  conv at h=>arg 2;whnf
  conv=>arg 2;whnf
  repeat' first|(refine zHu (id:=48) ?_)|apply en_n|apply zAE|apply zAA|apply zAB|apply w0|refine k1ud (hd:=rfl) rfl rfl ?_|exact ycA zKA hC|refine ayA rfl ?_|refine ayQ rfl ?_|apply ay (hd:=rfl)|exact zH7 rfl rfl|refine w1 rfl rfl ?_|refine zAJ rfl ?_|refine zAI rfl ?_|apply zAO|refine awDA ?_|apply eb_n
  all_goals first|omega|skip
  refine Stop.go ?_
  refine zBW ?_ h
  exact zAU (Le_all rfl) (zA4 _) rfl rfl
theorem zc9: (NxO 19 fun m _ b s=>⟨0,0,decide (s.height>=1)&&zGS conF m b,true,true⟩):=by
 all_goals
  intro m kn k a b s hd wb St0 Q h
  obtain⟨hk0,hat0,hbig,him,hh,htr⟩:=hd
  obtain⟨-,-,ha0,ha1,hb0,hb1,-⟩:=him.ins _ (qAF hat0)
  dsimp only at ha0 ha1 hb0 hb1 h
  clear hat0
  have hC:=zOI m him b hb0
  unfold zCs at hC
  revert h
  generalize zGS conF m b=ca at *
  intro h
  by_cases hh1:s.height>=1 <;> cases ca
  all_goals first|rw[show decide (s.height>=1)=true from decide_eq_true hh1]at h|rw[show decide (s.height>=1)=false from decide_eq_false hh1]at h
 all_goals
  conv at h=>arg 2;whnf
  conv=>arg 2;whnf
  exact yO
theorem zc8: (NxO 20 fun m _ b s=>⟨0,0,decide (s.height>=1)&&zIb m b,true,true⟩):=by
 all_goals
  intro m kn k a b s hd wb St0 Q h
  obtain⟨hk0,hat0,hbig,him,hh,htr⟩:=hd
  obtain⟨-,-,ha0,ha1,hb0,hb1,-⟩:=him.ins _ (qAF hat0)
  dsimp only at ha0 ha1 hb0 hb1 h
  clear hat0
  have hn:∀v,m.pool[b.toNat]?=some v->zIb m b = !v.isText:=fun v hv=>by unfold zIb;rw[hv]
  have hn0:¬b<(m.pool.length:Int)->zIb m b=false:=fun h=>by unfold zIb;rw[qBP.2 (by omega)]
  have hc:(s.height>=1/\b<(m.pool.length:Int)/\∃c,m.pool[b.toNat]?=some c)\/(s.height>=1/\¬b<(m.pool.length:Int))\/¬s.height>=1:=by
   by_cases hh1:s.height>=1
   ·by_cases hb1:b<(m.pool.length:Int)
    ·exact .inl ⟨hh1,hb1,_,qAB (by omega)⟩
    ·exact .inr (.inl ⟨hh1,hb1⟩)
   ·exact .inr (.inr hh1)
  rcases hc with⟨hh1,hb1,c,hc⟩|⟨hh1,hb1⟩|hh1
  all_goals first|rw[show decide (s.height>=1)=true from decide_eq_true hh1,hn c hc]at h|rw[show decide (s.height>=1)=true from decide_eq_true hh1,hn0 hb1]at h|rw[show decide (s.height>=1)=false from decide_eq_false hh1]at h
 all_goals
  conv at h=>arg 2;whnf
  conv=>arg 2;whnf
  exact yO
