/- Parts. -/
import Ieee.Arith
import Derived.Lib.AppendStr
import Derived.Lib.UnsafeStr
import Derived.Laws.FloatArith
import Derived.Lib.Builder
import Derived.Laws.Pointers
import Derived.Laws.Externs
import Derived.Laws.Sem
import Derived.MapKept
import Derived.Maps.RangeRun
import Derived.Laws.Cover3
import Derived.Deep.AppendSrc
import Derived.Test.YtjcgiiedaccjpaaGreatDoorPAA
set_option maxHeartbeats 16000000
namespace Go.Sx
open Go.RowKit
def look: List Nat->Nat->Option Nat
 |[],_=>none
 |x::r,i=>match Nat.beq x i with
  |true=>some 0
  |false=>(look r i).map (· + 1)
theorem zHL: ∀{l:List Nat} {i j:Nat},look l i=some j->l[j]?=some i
 |x::r,i,j,h=>by
  unfold look at h
  split at h
  ·rename_i hb;injection h with h;subst h;rw[qAX hb];rfl
  ·cases hl:look r i with
   |none=>simp[hl]at h
   |some j'=>simp[hl]at h;subst h;simpa using zHL hl
 |[],_,_,h=>by cases h
theorem zId: ∀{l:List Nat} {i:Nat},look l i=none->i∉l
 |x::r,i,h=>by
  unfold look at h
  split at h
  ·cases h
  ·rename_i hb
   cases hl:look r i with
   |none =>
    have h1:=zId hl
    intro hm
    rcases qAq.1 hm with rfl|hm
    ·simp at hb
    ·exact h1 hm
   |some j'=>simp[hl]at h
 |[],_,_=>by simp
theorem zPo{l:List Nat}(hn:l.Nodup){i j:Nat}(h:l[j]?=some i): look l i=some j:=by
 cases hl:look l i with
 |none=>exact absurd (qAC h) (zId hl)
 |some k =>
  have h1:=zHL hl
  obtain⟨q1,e1⟩:=qAA.1 h
  obtain⟨q2,e2⟩:=qAA.1 h1
  have hp:=List.pairwise_iff_getElem.1 hn
  rcases qBS j k with hlt|hlt|hlt
  ·exact absurd (e1.trans e2.symm) (hp j k q1 q2 hlt)
  ·rw[hlt]
  ·exact absurd (e2.trans e1.symm) (hp k j q2 q1 hlt)
theorem zFh: ∀(η:List Ob) (is:List Nat) (ps:List Ob),(zEX η is ps).length=η.length
 |η,i::is,p::ps=>by rw[zEX,zFh];simp
 |η,[],ps=>by cases ps <;> rfl
 |η,_::_,[]=>rfl
theorem zGY: ∀(η:List Ob) (is:List Nat) (ps:List Ob) (i:Nat),i∉is->(zEX η is ps)[i]?=η[i]?
 |η,x::is,p::ps,i,h=>by
  have h1:x≠i:=fun e=>h (by rw[e];simp)
  rw[zEX,zGY _ is ps i (fun hm=>h (qAk _ hm)),qAh]
  rw[if_neg h1]
 |η,[],ps,_,_=>by cases ps <;> rfl
 |η,_::_,[],_,_=>rfl
theorem zHI: ∀(η:List Ob) (is:List Nat) (ps:List Ob) (j i:Nat) (o p:Ob),is.Nodup->is[j]?=some i->ps[j]?=some p->η[i]?=some o->(zEX η is ps)[i]?=some (Ob.back o p)
 |η,x::is,q::ps,0,i,o,p,hn,h1,h2,h3=>by
  simp at h1 h2;subst h1;subst h2
  rw[zEX,zGY _ is ps x (List.nodup_cons.1 hn).1,qAh,if_pos rfl,if_pos (qAA.1 h3).1,qAL,h3];rfl
 |η,x::is,q::ps,j+1,i,o,p,hn,h1,h2,h3=>by
  obtain⟨hx,hn⟩:=List.nodup_cons.1 hn
  have h1:is[j]?=some i:=by simpa using h1
  have hne:x≠i:=fun e=>hx (e▸qAC h1)
  rw[zEX]
  exact zHI _ is ps j i o p hn h1 (by simpa using h2) (by rw[qAh,if_neg hne];exact h3)
 |η,[],_,_,_,_,_,_,h1,_,_=>by simp at h1
 |η,_::_,[],_,_,_,_,_,_,h2,_=>by simp at h2
theorem zO5: ∀{ids:List Nat} {pre:List Ob} {j i:Nat} {o:Ob},ids[j]?=some i->pre[j]?=some o->zH4 o=false->i∈zCF ids pre
 |x::ids,p::pre,0,i,o,h1,h2,hb=>by
  simp at h1 h2;subst h1;subst h2
  unfold zCF;rw[hb];simp
 |x::ids,p::pre,j+1,i,o,h1,h2,hb=>by
  have:=zO5 (ids:=ids) (pre:=pre) (j:=j) (by simpa using h1) (by simpa using h2) hb
  unfold zCF
  split
  ·exact this
  ·exact qAk _ this
 |[],_,_,_,_,h1,_,_=>by simp at h1
 |_::_,[],_,_,_,_,h2,_=>by simp at h2
def Picks(η:List Ob)(ids:List Nat)(pre:List Ob): Prop:=(ids.map fun i=>(η[i]?).map Ob.forget)=pre.map fun p=>some (p.ren ids)
theorem Picks.get{η:List Ob}{ids:List Nat}{pre:List Ob}(h:Picks η ids pre){j i:Nat}{p:Ob}(hi:ids[j]?=some i)(hp:pre[j]?=some p): ∃o,η[i]?=some o/\o.forget=p.ren ids:=by
 have h1:(ids.map fun i=>(η[i]?).map Ob.forget)[j]?=(pre.map fun p=>some (p.ren ids))[j]?:=by rw[h]
 rw[qAJ,qAJ,hi,hp]at h1
 simp only[qBG,qBt]at h1
 cases ho:η[i]? with
 |none=>simp[ho]at h1
 |some o=>simp[ho]at h1;exact⟨o,rfl,h1⟩
theorem zSg{o:Ob}{ids:List Nat}{p:Ob}(h:o.forget=p.ren ids)(hp:zH4 p=false): o=p.ren ids:=by
 cases p with
 |bx k et cs=>cases hp
 |mapq q k l=>cases hp
 |buf mu e sz xs=>cases o <;> simp[Ob.forget,Ob.ren]at h ⊢ <;> exact h
 |iter s q=>cases o <;> simp[Ob.forget,Ob.ren]at h ⊢ <;> exact h
 |miter m since seen st=>cases o <;> simp[Ob.forget,Ob.ren]at h ⊢ <;> exact h
 |gone=>cases o <;> simp[Ob.forget,Ob.ren]at h ⊢
def zCG(g:Gh)(ids:List Nat): Gh:={ g with blk:=fun j=>(ids[j]?).bind g.blk,cap:=fun j=>g.cap (ids.getD j 0),sz:=fun j=>g.sz (ids.getD j 0),n:=ids.length }
def zQA(g g':Gh)(ids:List Nat)(n:Nat): Gh :=
 { St:=g'.St,blk:=fun i=>match look ids i with|some j=>g'.blk j|none=>g.blk i,cap:=fun i=>match look ids i with|some j=>g'.cap j|none=>g.cap i,sz:=fun i=>match look ids i with|some j=>g'.sz j|none=>g.sz i,n:=n }
theorem getD_some{ids:List Nat}{j i:Nat}(h:ids[j]?=some i): ids.getD j 0=i:=by rw[qAL,h];rfl
theorem Inv.callee{g:Gh}{w:World}{η:List Ob}{ids:List Nat}{pre:List Ob}(hi:Inv g w η)(hn:ids.Nodup)(hlen:ids.length=pre.length)(hp:Picks η ids pre)(hu:zEr pre=true)(hb:pre.all (Ob.below pre.length)=true): Inv (zCG g ids) w pre:=by
 have hg:∀j b,(zCG g ids).blk j=some b->∃i,ids[j]?=some i/\g.blk i=some b:=by
  intro j b h
  simp only[zCG]at h
  cases hj:ids[j]? with
  |none=>simp[hj]at h
  |some i=>simp[hj]at h;exact⟨i,rfl,h⟩
 refine⟨by simp[zCG,hlen],fun j b h=>?_,fun j h=>?_,fun i j b h1 h2=>?_,fun j p hpj=>?_,hi.st,hi.gl⟩
 ·obtain⟨i,_,h1⟩:=hg j b h;exact hi.lt i b h1
 ·simp only[zCG]at h ⊢;rw[qAj h];rfl
 ·obtain⟨i1,q1,q2⟩:=hg i b h1
  obtain⟨i2,q3,q4⟩:=hg j b h2
  have:=hi.inj i1 i2 b q2 q4
  subst this
  have a1:=zPo hn q1
  rw[zPo hn q3]at a1
  exact(qBR a1).symm
 ·have hjl:j<ids.length:=by rw[hlen];exact(qAA.1 hpj).1
  have hij:ids[j]?=some ids[j]:=qAB hjl
  obtain⟨o,ho,hf⟩:=hp.get hij hpj
  have hoo:=hi.ob _ o ho
  have eb:(zCG g ids).blk j=g.blk ids[j]:=by simp[zCG,hij]
  have ec:(zCG g ids).cap j=g.cap ids[j]:=by simp only[zCG];rw[getD_some hij]
  have es:(zCG g ids).sz j=g.sz ids[j]:=by simp only[zCG];rw[getD_some hij]
  have hm:∀k,k<(zCG g ids).n->g.blk (ids.getD k 0)=(zCG g ids).blk k/\g.cap (ids.getD k 0)=(zCG g ids).cap k/\g.sz (ids.getD k 0)=(zCG g ids).sz k:=by
   intro k hk
   have hk':ids[k]?=some ids[k]:=qAB hk
   exact⟨by simp only[zCG];rw[getD_some hk',hk'];rfl,rfl,rfl⟩
  have hbelow:=qAI.1 hb _ (qAC hpj)
  have hnone:=qAI.1 hu _ (qAC hpj)
  cases hbx:zH4 p with
  |false =>
   have:=zSg hf hbx
   subst this
   cases p with
   |bx k et cs=>cases hbx
   |mapq q k l=>cases hbx
   |buf mu e sz xs =>
    obtain⟨h1,h2,h3,h4,h5⟩:=hoo
    exact⟨by rw[es];exact h1,h2,by rw[ec];exact h3,by rw[ec];exact h4,by rw[eb,ec];exact h5⟩
   |iter s q=>obtain⟨b,h1,h2,h3⟩:=hoo;exact⟨b,by rw[eb];exact h1,h2,h3⟩
   |miter m since seen st =>
    obtain⟨b,bm,h1,h2,h3,h4⟩:=hoo
    have hml:m<(zCG g ids).n:=by
     have:m<pre.length:=by simpa[Ob.below]using hbelow
     simp only[zCG];omega
    exact⟨b,bm,by rw[eb];exact h1,hml,by rw[<-(hm m hml).1];exact h3,h4⟩
   |gone=>trivial
  |true =>
   cases p with
   |bx k et cs =>
    cases k with
    |some c=>cases hnone
    |none =>
     cases o with
     |bx k2 et2 cs2 =>
      simp only[Ob.forget,Ob.ren,Ob.bx.injEq,true_and]at hf
      obtain⟨rfl,rfl⟩:=hf
      obtain⟨b,e,us,h1,h2,h3,h4,h5,h6,h7⟩:=hoo
      refine⟨b,e,us,by rw[eb];exact h1,h2,by simpa using h3,h4,fun q u s hu' hs=>?_,h6,fun _ h=>(by cases h),h7.2⟩
      have hsb:=qAI.1 hbelow s (qAC hs)
      refine RepS.unren (g:=zCG g ids) (g2:=g) rfl (by simp only[zCG];rw[hlen];exact hsb) hm (h5 q u (s.ren ids) hu' ?_)
      rw[qAJ,hs];rfl
     |_=>simp[Ob.forget,Ob.ren]at hf
   |mapq q k l =>
    cases k with
    |some c=>cases hnone
    |none =>
     cases o with
     |mapq q2 k2 l2 =>
      simp only[Ob.forget,Ob.ren,Ob.mapq.injEq,true_and]at hf
      obtain⟨rfl,rfl⟩:=hf
      obtain⟨b,es',ck,h1,h2,h3,h4,h5,h6,h7⟩:=hoo
      exact⟨b,es',ck,by rw[eb];exact h1,h2,h3,h4,h5,fun _ h=>(by cases h),h7⟩
     |_=>simp[Ob.forget,Ob.ren]at hf
   |_=>cases hbx
theorem RepSs.callee{g:Gh}{w:World}{ids:List Nat}{m:Nat}(hm':ids.length=m): ∀(vs:List Value) (as:List SV),(∀(j:Nat) v s,vs[j]?=some v->as[j]?=some s->RepS g w v (s.ren ids))->vs.length=as.length->as.all (SV.bel m)=true->RepSs (zCG g ids) w vs as
 |[],[],_,_,_=>trivial
 |v::vs,s::as,h,hl,hb=>by
  simp only[qBn,qAR]at hb
  refine⟨RepS.unren (g:=zCG g ids) (g2:=g) rfl (by simp only[zCG];rw[hm'];exact hb.1) (fun k hk=>?_) (h 0 v s rfl rfl),RepSs.callee hm' vs as (fun j v' s' h1 h2=>h (j+1) v' s' (by simpa using h1) (by simpa using h2)) (by simpa using hl) hb.2⟩
  have hk':ids[k]?=some ids[k]:=qAB hk
  exact⟨by simp only[zCG];rw[getD_some hk',hk'];rfl,rfl,rfl⟩
 |[],_::_,_,hl,_=>by simp at hl
 |_::_,[],_,hl,_=>by simp at hl
def zFE(ids:List Nat)(n:Nat)(pre post:List Ob): List Nat:=ids++List.range' n (post.length-pre.length)
def ηOf(ids:List Nat)(pre post η:List Ob): List Ob :=
 zEX (zFC (zCF ids pre) ids η++List.replicate (post.length-pre.length) .gone) (zFE ids η.length pre post) (post.map (Ob.ren (zFE ids η.length pre post)))
theorem zUf{ids:List Nat}{n:Nat}{pre post:List Ob}(hlen:ids.length=pre.length){j i:Nat}(h:(zFE ids n pre post)[j]?=some i): (j<pre.length/\ids[j]?=some i)\/(pre.length<=j/\j<post.length/\i=n+(j-pre.length)):=by
 have h0:=h
 unfold zFE at h h0
 rcases qAF j ids.length with hj|hj
 ·rw[qAG hj]at h;exact .inl ⟨by omega,h⟩
 ·have hb:=(qAA.1 h0).1
  simp only[qAH,List.length_range']at hb
  rw[qAD hj,qBr oM]at h
  injection h with h;exact .inr ⟨by omega,by omega,by omega⟩
theorem zPs{ids:List Nat}{n:Nat}{pre post:List Ob}(hn:ids.Nodup)(hl:∀i∈ids,i<n): (zFE ids n pre post).Nodup:=by
 unfold zFE
 rw[qBl]
 refine⟨hn,List.nodup_range',fun a ha b hb e=>?_⟩
 subst e
 have h1:=hl a ha
 rw[List.mem_range'_1]at hb
 omega
section
variable {C:Ctx}{σ:Sl}{η:List Ob}
theorem AbsG.called{g g':Gh}{a:Act}{w w':World}(h:AbsG C g σ η a w){ids:List Nat}{pre post:List Ob}{v:Value}{res:SV}(hn:ids.Nodup)(hlen:ids.length=pre.length)(hp:Picks η ids pre)(hk:zDE pre post=true)(hro:ids.all (fun i=>Nat.ble C.ro i)=true)
  (hI:Inv g' w' post) (hres:RepS g' w' v res) (hF:Frame (zCG g ids) w pre g' w') :
  ∃g2,AbsG C g2 (zGo (zCF ids pre) ids σ) (ηOf ids pre post η) a w'/\RepS g2 w' v (res.ren (zFE ids η.length pre post)):=by
 have hpl:pre.length<=post.length:=zGv hk
 have hgn:=h.inv.n
 have hinl:∀i,i∈ids->i<g.n:=by
  intro i hm
  obtain⟨j,hj⟩:=qBA.1 hm
  have hjl:j<pre.length:=by rw[<-hlen];exact(qAA.1 hj).1
  obtain⟨o,ho,_⟩:=hp.get hj (qAB hjl)
  rw[h.inv.n];exact(qAA.1 ho).1
 have hgc:∀j b,(zCG g ids).blk j=some b->∃i,ids[j]?=some i/\g.blk i=some b:=by
  intro j b hb
  simp only[zCG]at hb
  cases hj:ids[j]? with
  |none=>simp[hj]at hb
  |some i=>simp[hj]at hb;exact⟨i,rfl,hb⟩
 have hown:∀j b,(zCG g ids).blk j=some b->C.w0.heap.size<=b\/C.X b:=by
  intro j b hb
  obtain⟨i,hi,hb⟩:=hgc j b hb
  exact h.own i b hb (qAM (qAI.1 hro i (qAC hi)))
 have hidl:(zFE ids η.length pre post).length=post.length:=by simp[zFE,hlen];omega
 have hnd:(zFE ids η.length pre post).Nodup:=zPs hn fun i hi=>by rw[<-hgn];exact hinl i hi
 have hmem:∀i,i∈zFE ids η.length pre post↔i∈ids\/(η.length<=i/\i<η.length+(post.length-pre.length)):=by
  intro i;unfold zFE;rw[qAm,List.mem_range'_1]
 have hget:∀{j i:Nat},(zFE ids η.length pre post)[j]?=some i->(j<pre.length/\ids[j]?=some i)\/(pre.length<=j/\j<post.length/\i=η.length+(j-pre.length)):=fun hj=>zUf hlen hj
 have hgetl:∀{j i:Nat},ids[j]?=some i->(zFE ids η.length pre post)[j]?=some i:=fun hj=>by
  unfold zFE;rw[qAG (qAA.1 hj).1];exact hj
 generalize hidx:zFE ids η.length pre post=idx at hidl hnd hmem hget hgetl
 let g2:=zQA g g' idx (g.n+(post.length-pre.length))
 have e_out:∀i,i∉idx->g2.blk i=g.blk i/\g2.cap i=g.cap i/\g2.sz i=g.sz i:=by
  intro i hi
  have:look idx i=none:=by
   cases hl:look idx i with
   |none=>rfl
   |some j=>exact absurd (qAC (zHL hl)) hi
  simp only[g2,zQA,this];exact⟨trivial,trivial,trivial⟩
 have e_in:∀j i,idx[j]?=some i->g2.blk i=g'.blk j/\g2.cap i=g'.cap j/\g2.sz i=g'.sz j:=by
  intro j i hj
  simp only[g2,zQA,zPo hnd hj];exact⟨trivial,trivial,trivial⟩
 have hold:∀i,i<g.n->i∉ids->i∉idx:=fun i hi hm hm2=>by
  rcases(hmem i).1 hm2 with h1|h1
  ·exact hm h1
  ·omega
 have e_out':∀i,i<g.n->i∉ids->g2.blk i=g.blk i/\g2.cap i=g.cap i/\g2.sz i=g.sz i:=fun i hi hm=>e_out i (hold i hi hm)
 have e_box:∀i,i<g.n->i∉zCF ids pre->g2.blk i=g.blk i:=by
  intro i hig hi
  by_cases hm:i∈ids
  ·obtain⟨j,hj⟩:=qBA.1 hm
   have hjl:j<pre.length:=by rw[<-hlen];exact(qAA.1 hj).1
   have hpj:pre[j]?=some pre[j]:=qAB hjl
   cases hb:zH4 pre[j]with
   |false=>exact absurd (zO5 hj hpj hb) hi
   |true=>rw[(e_in j i (hgetl hj)).1,hF.box j _ hpj hb];simp[zCG,hj]
  ·exact(e_out' i hig hm).1
 have kp:Keep g.St w g2.St w':=hF.keep
 have n2:g.n<=g2.n:=qBD _ _
 have rw_:∀{u:Value} {s:SV},RepS g w u s->RepS g2 w' u (s.wipe (zCF ids pre) ids):=fun r=>r.wipe kp e_out' e_box n2
 have rm_:∀j,j<g'.n->idx.getD j 0<g2.n/\g2.blk (idx.getD j 0)=g'.blk j/\g2.cap (idx.getD j 0)=g'.cap j/\g2.sz (idx.getD j 0)=g'.sz j:=fun j hj=>by
  have hjl:j<idx.length:=by rw[hidl,<-hI.n];exact hj
  have hj':idx[j]?=some idx[j]:=qAB hjl
  rw[getD_some hj']
  refine⟨?_,e_in j _ hj'⟩
  show idx[j]<g.n+(post.length-pre.length)
  rcases(hmem idx[j]).1 (qBc hjl)with h1|h1
  ·have:=hinl _ h1;omega
  ·omega
 have rn_:∀{u:Value} {s:SV},RepS g' w' u s->RepS g2 w' u (s.ren idx):=fun r=>RepS.ren (g:=g') (g2:=g2) rfl rm_ r
 have hblk:∀i b,g2.blk i=some b->(i∉idx/\g.blk i=some b)\/∃j,idx[j]?=some i/\g'.blk j=some b:=by
  intro i b hb
  cases hl:look idx i with
  |none=>exact .inl ⟨zId hl,by rw[<-(e_out i (zId hl)).1];exact hb⟩
  |some j=>exact .inr ⟨j,zHL hl,by rw[<-(e_in j i (zHL hl)).1];exact hb⟩
 have hforeign:∀i b,i∉ids->g.blk i=some b->∀j,(zCG g ids).blk j≠some b:=by
  intro i b hi hb j hj
  obtain⟨i2,q1,q2⟩:=hgc j b hj
  have:=h.inv.inj i i2 b hb q2
  exact hi (this▸qAC q1)
 have hnotin:∀i,i∉idx->i∉ids:=fun i hi hm=>hi ((hmem i).2 (.inl hm))
 have hlenw:(zFC (zCF ids pre) ids η++List.replicate (post.length-pre.length) Ob.gone).length=η.length+(post.length-pre.length):=by rw[qAH,zDC,List.length_replicate]
 unfold ηOf
 rw[hidx]
 refine⟨g2,⟨h.defers,h.size,⟨by rw[zFh,hlenw,<-hgn];rfl,fun i b hb=>?_,fun i hi=>?_,fun i j b hbi hbj=>?_,fun i o ho=>?_,hI.st,hI.gl⟩,hF.os.trans h.os,hF.tape.trans h.tape,hF.output.trans h.output,qAx h.wsize hF.size,
  fun k hk hx=>?_,h.keep.trans kp,fun b o hb=>?_,fun i b hb hr=>?_,fun t=>?_⟩,rn_ hres⟩
 ·rcases hblk i b hb with⟨_,h1⟩|⟨j,_,h1⟩
  ·exact qAc (h.inv.lt i b h1) hF.size
  ·exact hI.lt j b h1
 ·have hi:g.n+(post.length-pre.length)<=i:=hi
  have hm:i∉idx:=fun hm=>by
   rcases(hmem i).1 hm with h1|h1
   ·have:=hinl i h1;omega
   ·omega
  rw[(e_out i hm).1];exact h.inv.dead i oM
 ·rcases hblk i b hbi with⟨q1,q2⟩|⟨j1,q1,q2⟩ <;> rcases hblk j b hbj with⟨q3,q4⟩|⟨j2,q3,q4⟩
  ·exact h.inv.inj i j b q2 q4
  ·exfalso
   rcases hF.own j2 b q4 with h1|⟨k,h1⟩
   ·have:=h.inv.lt i b q2;omega
   ·exact hforeign i b (hnotin i q1) q2 k h1
  ·exfalso
   rcases hF.own j1 b q2 with h1|⟨k,h1⟩
   ·have:=h.inv.lt j b q4;omega
   ·exact hforeign j b (hnotin j q3) q4 k h1
  ·have:=hI.inj j1 j2 b q2 q4
   subst this
   rw[q1]at q3;exact qBR q3
 ·
  by_cases hm:i∈idx
  ·obtain⟨j,hj⟩:=qBA.1 hm
   have hjl:j<post.length:=by rw[<-hidl];exact(qAA.1 hj).1
   have hqj:post[j]?=some post[j]:=qAB hjl
   have hoo:=hI.ob j _ hqj
   obtain⟨eb,ec,es⟩:=e_in j i hj
   obtain⟨was,hwas,hanchor⟩:∃was,(zFC (zCF ids pre) ids η++List.replicate (post.length-pre.length) Ob.gone)[i]?=some was/\
     (zDx was=zDx post[j]/\(zH4 was=true->g.blk i=g'.blk j/\∃old,η[i]?=some old/\was=old.wipe (zCF ids pre) ids)\/was=.gone):=by
    rcases hget hj with⟨hjp,hij⟩|⟨hjp,_,hij⟩
    ·have hpj:pre[j]?=some pre[j]:=qAB hjp
     obtain⟨old,hold',hfo⟩:=hp.get hij hpj
     have hil:i<η.length:=(qAA.1 hold').1
     refine⟨old.wipe (zCF ids pre) ids,by rw[qAG (by rw[zDC];exact hil),zGW,hold'];rfl,?_⟩
     have hs:=zFZ hk j _ _ hpj hqj
     have hko:zDx old=zDx pre[j]:=by
      have h1:zDx old.forget=zDx old:=by cases old <;> rfl
      have h2:zDx (pre[j].ren ids)=zDx pre[j]:=by cases pre[j] <;> rfl
      rw[<-h1,hfo,h2]
     have hkw:zDx (old.wipe (zCF ids pre) ids)=zDx old:=by
      cases old with
      |miter m since seen st=>simp only[Ob.wipe];split <;> rfl
      |_=>rfl
     refine .inl ⟨hkw.trans (hko.trans hs),fun hb=>⟨?_,old,hold',rfl⟩⟩
     have hbp:zH4 pre[j]=true:=zFj.2 (by rw[<-hko,<-hkw];exact zFj.1 hb)
     rw[hF.box j _ hpj hbp];simp[zCG,hij]
    ·exact⟨.gone,by rw[qAD (by rw[zDC];omega),zDC,List.getElem?_replicate,if_pos oM],.inr rfl⟩
   have hset:=zHI _ idx (post.map (Ob.ren idx)) j i was (post[j].ren idx) hnd hj (by rw[qAJ,hqj];rfl) hwas
   rw[hset]at ho
   injection ho with ho
   generalize post[j]=q at hoo ho hanchor
   cases q with
   |bx k et cs =>
    obtain⟨b,e,us,h1,h2,h3,h4,h5,h6,h7⟩:=hoo
    have key:∀k',(∀c,k'=some c->c=b)->ObOk g2 w' i (.bx k' et (cs.map (SV.ren idx))):=fun k' hk'=>by
     refine⟨b,e,us,by rw[eb];exact h1,h2,by simpa using h3,h4,fun m u s hu hs=>?_,h6,hk',h7.2⟩
     rw[qAJ]at hs
     cases hcs:cs[m]? with
     |none=>simp[hcs]at hs
     |some s0=>simp[hcs]at hs;subst hs;exact rn_ (h5 m u s0 hu hcs)
    rcases hanchor with⟨h8,h9⟩|rfl
    ·cases was with
     |bx k2 et2 cs2 =>
      subst ho
      obtain⟨h10,old,h11,h12⟩:=h9 rfl
      refine key k2 fun c hc=>?_
      have hoo2:=h.inv.ob i old h11
      cases old with
      |bx k3 et3 cs3 =>
       simp only[Ob.wipe,Ob.bx.injEq]at h12
       obtain⟨b2,e2,us2,o1,o2,o3,o4,o5,o6,o7⟩:=hoo2
       rw[o1,h1]at h10
       injection h10 with h10
       rw[<-h10];exact o7.1 c (by rw[<-h12.1];exact hc)
      |miter m since seen st=>simp only[Ob.wipe]at h12;split at h12 <;> cases h12
      |_=>simp[Ob.wipe]at h12
     |_=>cases h8
    ·subst ho
     exact key k h7.1
   |mapq q k l =>
    obtain⟨b,es',ck,h1,h2,h3,h4,h5,h6,h7⟩:=hoo
    have key:∀k',(∀c,k'=some c->c=b)->ObOk g2 w' i (.mapq q k' l):=fun k' hk'=>⟨b,es',ck,by rw[eb];exact h1,h2,h3,h4,h5,hk',h7⟩
    rcases hanchor with⟨h8,h9⟩|rfl
    ·cases was with
     |mapq q2 k2 l2 =>
      subst ho
      obtain⟨h10,old,h11,h12⟩:=h9 rfl
      refine key k2 fun c hc=>?_
      have hoo2:=h.inv.ob i old h11
      cases old with
      |mapq q3 k3 l3 =>
       simp only[Ob.wipe,Ob.mapq.injEq]at h12
       obtain⟨b2,es2,ck2,o1,o2,o3,o4,o5,o6,_⟩:=hoo2
       rw[o1,h1]at h10
       injection h10 with h10
       rw[<-h10];exact o6 c (by rw[<-h12.2.1];exact hc)
      |miter m since seen st=>simp only[Ob.wipe]at h12;split at h12 <;> cases h12
      |_=>simp[Ob.wipe]at h12
     |_=>cases h8
    ·subst ho
     exact key k h6
   |buf mu e sz xs =>
    have ho:Ob.buf mu e sz xs=o:=by cases was <;> exact ho
    subst ho
    obtain⟨h1,h2,h3,h4,h5⟩:=hoo
    exact⟨by rw[es];exact h1,h2,by rw[ec];exact h3,by rw[ec];exact h4,by rw[eb,ec];exact h5⟩
   |iter s p =>
    have ho:Ob.iter s p=o:=by cases was <;> exact ho
    subst ho
    obtain⟨b,h1,h2,h3⟩:=hoo;exact⟨b,by rw[eb];exact h1,h2,h3⟩
   |miter m since seen st =>
    have ho:Ob.miter (idx.getD m 0) since seen st=o:=by cases was <;> exact ho
    subst ho
    obtain⟨b,bm,h1,h2,h3,h4⟩:=hoo
    obtain⟨r1,r2,_⟩:=rm_ m h2
    exact⟨b,bm,by rw[eb];exact h1,r1,by rw[r2];exact h3,h4⟩
   |gone =>
    have ho:Ob.gone=o:=by cases was <;> exact ho
    subst ho;trivial
  ·rw[zGY _ _ _ i hm]at ho
   have hil:i<η.length:=by
    have h1:=(qAA.1 ho).1
    rw[hlenw]at h1
    rcases qAF i η.length with h2|h2
    ·exact h2
    ·exact absurd ((hmem i).2 (.inr ⟨h2,h1⟩)) hm
   rw[qAG (by rw[zDC];exact hil),zGW]at ho
   have hmi:=hnotin i hm
   cases hq:η[i]? with
   |none=>simp[hq]at ho
   |some q =>
    simp[hq]at ho;subst ho
    have hoo:=h.inv.ob i q hq
    obtain⟨eb,ec,es⟩:=e_out i hm
    have hh:∀b,g.blk i=some b->w'.heap[b]?=w.heap[b]?/\∀o,g2.St b o↔g.St b o:=by
     intro b hb
     have hf:=hforeign i b hmi hb
     refine⟨hF.heap b (h.inv.lt i b hb) hf,fun o=>⟨fun ho=>?_,fun ho=>kp.sub b o ho⟩⟩
     rcases hF.new b o ho with h1|h1|⟨j,h1⟩
     ·exact h1
     ·have:=h.inv.lt i b hb;omega
     ·exact absurd h1 (hf j)
    cases q with
    |bx k et cs =>
     obtain⟨b,e,us,h1,h2,h3,h4,h5,h6,h7⟩:=hoo
     refine⟨b,e,us,by rw[eb];exact h1,(hh b h1).1.trans h2,by simpa using h3,h4,fun m u s hu hs=>?_,fun o ho=>h6 o (((hh b h1).2 o).1 ho),h7⟩
     rw[qAJ]at hs
     cases hcs:cs[m]? with
     |none=>simp[hcs]at hs
     |some s0=>simp[hcs]at hs;subst hs;exact rw_ (h5 m u s0 hu hcs)
    |buf mu e sz xs =>
     obtain⟨h1,h2,h3,h4,h5⟩:=hoo
     refine⟨by rw[es];exact h1,h2,by rw[ec];exact h3,by rw[ec];exact h4,?_⟩
     rcases h5 with h5|⟨b,us,h5,h6,h7,h8,h9,h10⟩
     ·exact .inl (by rw[eb,ec];exact h5)
     ·exact .inr ⟨b,us,by rw[eb];exact h5,(hh b h5).1.trans h6,by rw[ec];exact h7,h8,fun m u d hu hd=>(h9 m u d hu hd).keep kp,fun o=>((hh b h5).2 o).trans (h10 o)⟩
    |iter s p =>
     obtain⟨b,h1,h2,h3⟩:=hoo
     exact⟨b,by rw[eb];exact h1,(hh b h1).1.trans h2,fun o ho=>h3 o (((hh b h1).2 o).1 ho)⟩
    |mapq q kb l =>
     obtain⟨b,es',ck,h1,h2,h3,h4,h5,h6⟩:=hoo
     exact⟨b,es',ck,by rw[eb];exact h1,(hh b h1).1.trans h2,h3,fun j e p he hp=>⟨(h4 j e p he hp).1,(h4 j e p he hp).2.keep kp⟩,fun o ho=>h5 o (((hh b h1).2 o).1 ho),h6⟩
    |miter m since seen st =>
     simp only[Ob.wipe]
     cases hmb:(zCF ids pre).any (Nat.beq m)with
     |true=>trivial
     |false =>
      obtain⟨b,bm,h1,h2,h3,h4,h5⟩:=hoo
      exact⟨b,bm,by rw[eb];exact h1,qAc h2 n2,by rw[e_box m h2 (zEM hmb)];exact h3,(hh b h1).1.trans h4,fun o ho=>h5 o (((hh b h1).2 o).1 ho)⟩
    |gone=>trivial
 ·refine(hF.heap k (qAc hk h.wsize) fun j hj=>?_).trans (h.heap k hk hx)
  rcases hown j k hj with h1|h1
  ·omega
  ·exact hx h1
 ·rcases hF.new b o hb with h1|h1|⟨j,h1⟩
  ·exact h.new b o h1
  ·exact .inr (.inl (qAx h.wsize h1))
  ·exact .inr (hown j b h1)
 ·rcases hblk i b hb with⟨_,h1⟩|⟨j,_,h1⟩
  ·exact h.own i b h1 hr
  ·rcases hF.own j b h1 with h2|⟨k,h2⟩
   ·exact .inl (qAx h.wsize h2)
   ·exact hown k b h2
 ·rw[zM0];exact rw_ (h.rep t)
def zEw: List Ob->List Ob->Bool
 |[],[]=>true
 |o::r,p::s=>Nat.beq (zDx o) (zDx p)&&zEw r s
 |_,_=>false
theorem zD2: ∀{l m:List Ob},zEw l m=true->zDE l m=true/\l.length=m.length
 |[],[],_=>⟨rfl,rfl⟩
 |o::r,p::s,h=>by
  simp only[zEw,qAR]at h
  obtain⟨h1,h2⟩:=zD2 h.2
  exact⟨by simp only[zDE,qAR];exact⟨h.1,h1⟩,by simp[h2]⟩
 |[],_::_,h=>by cases h
 |_::_,[],h=>by cases h
theorem zMT{ids:List Nat}{pre post η:List Ob}(h:pre.length=post.length): ηOf ids pre post η=zEX (zFC (zCF ids pre) ids η) ids (post.map (Ob.ren ids))/\zFE ids η.length pre post=ids:=by
 simp[ηOf,zFE,h]
end
def SArgs(σ:Sl)(ids:List Nat): List Operand->List SV->Prop
 |[],[]=>True
 |x::xs,s::ss=>oval σ x=s.ren ids/\SArgs σ ids xs ss
 |_,_=>False
theorem SArgs_nil{σ:Sl}{ids:List Nat}: SArgs σ ids [] []:=trivial
theorem SArgs_cons{σ:Sl}{ids:List Nat}{x:Operand}{xs:List Operand}{s:SV}{ss:List SV}(h:oval σ x=s.ren ids)(r:SArgs σ ids xs ss): SArgs σ ids (x::xs) (s::ss):=⟨h,r⟩
def saG(σ:Sl):List Operand->List SV|[]=>[]|x::r=>oval σ x::saG σ r
def saW(ids:List Nat):List SV->List SV|[]=>[]|s::r=>s.ren ids::saW ids r
theorem SArgs_all{σ:Sl}{ids:List Nat}:∀{xs:List Operand}{ss:List SV},saG σ xs=saW ids ss->SArgs σ ids xs ss
 |[],[],_=>SArgs_nil
 |_::_,_::_,h=>by
  simp only [saG,saW,List.cons.injEq] at h
  exact SArgs_cons h.1 (SArgs_all h.2)
 |[],_::_,h=>by simp [saG,saW] at h
 |_::_,[],h=>by simp [saG,saW] at h
theorem SArgs.rep{C:Ctx}{g:Gh}{σ:Sl}{η:List Ob}{a:Act}{w:World}(ha:AbsG C g σ η a w){ids:List Nat}: ∀(xs:List Operand) (ss:List SV),SArgs σ ids xs ss->xs.length=ss.length/\∀(j:Nat) v s,(xs.map a.eval)[j]?=some v->ss[j]?=some s->RepS g w v (s.ren ids)
 |[],[],_=>⟨rfl,fun j v s h=>by simp at h⟩
 |x::xs,s::ss,⟨h1,h2⟩=>by
  obtain⟨e1,e2⟩:=SArgs.rep ha xs ss h2
  refine⟨by simp[e1],fun j v s' hv hs=>?_⟩
  match j with
  |0 =>
   simp at hv hs;subst hv;subst hs
   have:=ha.eval x;rw[h1]at this;exact this
  |j+1=>exact e2 j v s' (by simpa using hv) (by simpa using hs)
 |[],_::_,h=>h.elim
 |_::_,[],h=>h.elim
section
variable {C:Ctx}{ops:Array Oper}{rest:List Oper}{K:Sl->List Ob->Prop}{σ:Sl}{η:List Ob}{d:Nat}{ty:TypeId}{pos:String}{after:Array Edge}{gd:Option (Nat×Bool)}
theorem zEt{f:FuncId}{args:List Operand}{ts:Array TypeId}{as:List SV}{pre post:List Ob}{res:SV}(ids:List Nat)(hb:zAQ C.P f=true)(hc:zBR C.P f as pre res post)(ha:SArgs σ ids args as)(hp:Picks η ids pre)(hd:Nat.blt d C.N=true)
  (hn:ids.Nodup) (hlen:ids.length=pre.length) (hu:zEr pre=true) (hbl:pre.all (Ob.below pre.length)=true) (hba:as.all (SV.bel pre.length)=true) (hk:zEw pre post=true) (hro:ids.all (fun i=>Nat.ble C.ro i)=true)
  (h:alex C false ops rest K ((d,res.ren ids)::zGo (zCF ids pre) ids σ) (zEX (zFC (zCF ids pre) ids η) ids (post.map (Ob.ren ids)))) :
  zBJ C false ops ⟨some d,.call ⟨.value (.func f),args.toArray,ts⟩,ty,pos,after,gd⟩ rest K σ η:=by
 intro Q hQ a w ⟨g,hg⟩ K' hK'
 obtain⟨e1,e2⟩:=ha.rep hg
 unfold Oper.wp
 have hrun:(execOp a.eval ⟨some d,.call ⟨.value (.func f),args.toArray,ts⟩,ty,pos,after,gd⟩).run C.P w=.ok (.enter f (args.map a.eval).toArray) w:=by
  simp only[execOp,resolve,Act.eval,Deferred.ofValue,invoke,Sem.run_bind,Sem.run_pure,Result.andThen_ok,qA4,qBW,qBq]
  exact zDG hb
 rw[hrun,Oper.upon_enter]
 have hr:=RepSs.callee (g:=g) (w:=w) hlen (args.map a.eval) as e2 (by simp[e1]) hba
 refine(hc (zCG g ids) w _ (hg.inv.callee hn hlen hp hu hbl) hr).mono fun e w' ⟨v,g',he,hI,hres,hF⟩=>?_
 subst he
 obtain⟨hk1,hk2⟩:=zD2 hk
 obtain⟨g2,h1,h2⟩:=hg.called hn hlen hp hk1 hro hI hres hF
 obtain⟨e3,e4⟩:=zMT (ids:=ids) (η:=η) hk2
 rw[e3]at h1;rw[e4]at h2
 exact hK' _ _ (h Q hQ _ w' ⟨g2,h1.put (d:=some d) hd h2⟩)
theorem zY4{f:FuncId}{args:List Operand}{ts:Array TypeId}{as:List SV}{pre post:List Ob}{res:SV}(ids:List Nat)(hb:zAQ C.P f=true)(hc:zBR C.P f as pre res post)(ha:SArgs σ ids args as)(hp:Picks η ids pre)(hd:Nat.blt d C.N=true)
  (hn:ids.Nodup) (hlen:ids.length=pre.length) (hu:zEr pre=true) (hbl:pre.all (Ob.below pre.length)=true) (hba:as.all (SV.bel pre.length)=true) (hk:zDE pre post=true) (hro:ids.all (fun i=>Nat.ble C.ro i)=true)
  (h:alex C false ops rest K ((d,res.ren (zFE ids η.length pre post))::zGo (zCF ids pre) ids σ) (ηOf ids pre post η)) :
  zBJ C false ops ⟨some d,.call ⟨.value (.func f),args.toArray,ts⟩,ty,pos,after,gd⟩ rest K σ η:=by
 intro Q hQ a w ⟨g,hg⟩ K' hK'
 obtain⟨e1,e2⟩:=ha.rep hg
 unfold Oper.wp
 have hrun:(execOp a.eval ⟨some d,.call ⟨.value (.func f),args.toArray,ts⟩,ty,pos,after,gd⟩).run C.P w=.ok (.enter f (args.map a.eval).toArray) w:=by
  simp only[execOp,resolve,Act.eval,Deferred.ofValue,invoke,Sem.run_bind,Sem.run_pure,Result.andThen_ok,qA4,qBW,qBq]
  exact zDG hb
 rw[hrun,Oper.upon_enter]
 have hr:=RepSs.callee (g:=g) (w:=w) hlen (args.map a.eval) as e2 (by simp[e1]) hba
 refine(hc (zCG g ids) w _ (hg.inv.callee hn hlen hp hu hbl) hr).mono fun e w' ⟨v,g',he,hI,hres,hF⟩=>?_
 subst he
 obtain⟨g2,h1,h2⟩:=hg.called hn hlen hp hk hro hI hres hF
 exact hK' _ _ (h Q hQ _ w' ⟨g2,h1.put (d:=some d) hd h2⟩)
end
end Go.Sx
namespace Go.Fl
open Ieee
def Fd(n:Nat): Nat:=double.nearest false n 0
end Go.Fl
namespace Go.Sx
open Go.RowKit Go.Lib
section
variable {C:Ctx}{ops:Array Oper}{rest:List Oper}{K:Sl->List Ob->Prop}{σ:Sl}{η:List Ob}{d:Nat}{ty:TypeId}{pos:String}{after:Array Edge}{gd:Option (Nat×Bool)}{t u:TypeId}{x y:Operand}
end
section
variable {P:Program}{η:List Ob}{σ:Sl}{dst:Option Nat}{ty:TypeId}{pos:String}{after:Array Edge}{gd:Option (Nat×Bool)}{t yt:TypeId}{x y:Operand}
abbrev fl(n:Nat): D:=.val (.float .f64 (Fl.Fd n))
end
section
variable {P:Program}{η:List Ob}{σ:Sl}{dst:Option Nat}{ty:TypeId}{pos:String}{after:Array Edge}{gd:Option (Nat×Bool)}{t yt:TypeId}{x y:Operand}
theorem zAn{id o:Nat}(hx:oval σ x=.ptr id o): Ylds P η σ ⟨dst,.nilCheck x,ty,pos,after,gd⟩ (.ptr id o):=by
 refine Ylds.same fun g w a hi h=>⟨a.eval x,?_,?_⟩
 ·have h1:=h x sO;rw[hx]at h1
  obtain⟨_,b,_,hv⟩:=h1
  simp[execOp,hv]
 ·have h1:=h x sO;rw[hx]at h1;exact h1
end
def zBX(P:Program)(f:FuncId)(as:List SV)(pre:List Ob)(res:D): Prop :=
 ∀(g:Gh) (w:World) (vs:List Value),Inv g w pre->RepSs g w vs as->
  Calls P f vs.toArray w (fun e w'=>∃v St',e=.returned v/\RepD St' w' v res/\Below w.heap.size w w'/\Keep g.St w St' w'/\
   (∀b o,St' b o->g.St b o\/w.heap.size<=b)/\(∀b o,St' b o->b<w'.heap.size))
theorem zDS{P:Program}{f:FuncId}{fn:Func}{c:Code}{as:List SV}{pre:List Ob}{res:D}{N:Nat}{rs:Array ResultVar}(hf:P.funcs[f]?=some fn)(hb:fn.body=some c)(hN:fn.ntmps=N)(hrs:fn.results=rs)(hl:Nat.ble as.length N=true)
  (h:∀(w0:World) (St0:Stab),awp ⟨P,N,w0,St0,fun _=>False,pre.length⟩ c (zBj rs res) (zN2 as 0) pre):zBX P f as pre res:=by
 intro g w vs hi hrep
 subst hN
 have hl:=qAM hl
 have hlen:=hrep.len
 refine calls_of_wp hf hb (h w g.St _ ?_ _ _ ?_)
 ·intro e σ' η' a' w' hq ⟨g',ha⟩
  have fin:ResOk rs σ' η' res->a'.defers=[]/\∃v,(results fn a'.tmps).run P w' = .ok v w'/\∃v_1 St',Ending.returned v=.returned v_1/\RepD St' w' v_1 res/\Below w.heap.size w w'/\Keep g.St w St' w'/\
   (∀b o,St' b o->g.St b o\/w.heap.size<=b)/\(∀b o,St' b o->b<w'.heap.size):=by
   intro hq
   obtain⟨v,hr,hd⟩:=hq.run (P:=P) hrs ha
   refine⟨ha.defers,v,hr,v,g'.St,rfl,hd,⟨ha.os,ha.tape,ha.output,ha.wsize,fun k hk=>ha.heap k hk (fun h=>h)⟩,ha.keep,fun b o hb=>?_,ha.inv.st⟩
   rcases ha.new b o hb with h1|h1|h1
   ·exact .inl h1
   ·exact .inr h1
   ·exact h1.elim
  cases e <;> first|exact fin hq|exact hq.elim
 ·refine⟨g,rfl,?_,hi,rfl,rfl,rfl,qAN _,fun _ _ _=>rfl,Keep.refl g.St w,fun _ _ h=>.inl h,fun i b hb hr=>?_,?_⟩
  ·simp[hlen];omega
  ·exfalso
   have h1:pre.length<=i:=hr
   have h2:=hi.dead i (by rw[hi.n];exact h1)
   rw[hb]at h2;cases h2
  ·refine zHJ vs as 0 _ hrep fun j v hj=>?_
   have hjl:j<vs.length:=(qAA.1 hj).1
   simp only[qAS,qAQ]
   rw[qAl (by simpa using hjl)]
   simp[hj]
theorem SArgs.repO{g:Gh}{w:World}{a:Act}{σ:Sl}{ids:List Nat}: ∀(xs:List Operand) (ss:List SV),(∀x∈xs,RepS g w (a.eval x) (oval σ x))->SArgs σ ids xs ss->xs.length=ss.length/\∀(j:Nat) v s,(xs.map a.eval)[j]?=some v->ss[j]?=some s->RepS g w v (s.ren ids)
 |[],[],_,_=>⟨rfl,fun j v s h=>by simp at h⟩
 |x::xs,s::ss,ho,⟨h1,h2⟩=>by
  obtain⟨e1,e2⟩:=SArgs.repO xs ss (fun y hy=>ho y (by simp[hy])) h2
  refine⟨by simp[e1],fun j v s' hv hs=>?_⟩
  match j with
  |0 =>
   simp at hv hs;subst hv;subst hs
   have:=ho x sI;rw[h1]at this;exact this
  |j+1=>exact e2 j v s' (by simpa using hv) (by simpa using hs)
 |[],_::_,_,h=>h.elim
 |_::_,[],_,h=>h.elim
theorem zRi{g:Gh}{w:World}{a:Act}{σ:Sl}{ids cs cids:List Nat}{x:Operand}{f:FuncId}{args:List Operand}{as:List SV}(hx:oval σ x=.clo f cids)(hcs:cs.map (fun j=>ids.getD j 0)=cids)(ho:RepS g w (a.eval x) (oval σ x))(ha:∀y∈args,RepS g w (a.eval y) (oval σ y))(hs:SArgs σ ids args as):
  ∃cv:List Value,a.eval x=.func (.func f) #[] cv.toArray/\(args.map a.eval++cv).length=(as++cs.map fun j=>SV.ptr j 0).length/\∀(j:Nat) v s,(args.map a.eval++cv)[j]?=some v->(as++cs.map fun j=>SV.ptr j 0)[j]?=some s->RepS g w v (s.ren ids):=by
 rw[hx]at ho
 obtain⟨cv,h1,h2,h3⟩:=ho
 obtain⟨e1,e2⟩:=SArgs.repO args as ha hs
 have hl:cs.length=cids.length:=by rw[<-hcs,qAE]
 refine⟨cv,h1,by simp[e1,h2,hl],fun j v s hv hs=>?_⟩
 rcases qAF j args.length with hj|hj
 ·rw[qAG pAK]at hv
  rw[qAG oM]at hs
  exact e2 j v s hv hs
 ·rw[qAD pAK]at hv
  rw[qAD oM]at hs
  rw[qAE]at hv
  rw[qAJ]at hs
  rw[<-e1]at hs
  cases hc:cs[j-args.length]? with
  |none=>simp[hc]at hs
  |some c =>
   simp[hc]at hs;subst hs
   have hid:cids[j-args.length]?=some (ids.getD c 0):=by rw[<-hcs,qAJ,hc];rfl
   exact h3 (j-args.length) _ v hid hv
section
variable {P:Program}{η:List Ob}{σ:Sl}{dst:Option Nat}{ty:TypeId}{pos:String}{after:Array Edge}{gd:Option (Nat×Bool)}{t yt:TypeId}{x y:Operand}
theorem zKX{f:FuncId}{a:Act}{cv:List Value}{args:List Operand}{ts:Array TypeId}{w:World}(hx:a.eval x=.func (.func f) #[] cv.toArray)(hb:zAQ P f=true):
  (execOp a.eval ⟨dst,.call ⟨.value x,args.toArray,ts⟩,ty,pos,after,gd⟩).run P w=.ok (.enter f (args.map a.eval++cv).toArray) w:=by
 simp only[execOp,resolve,hx,Deferred.ofValue,invoke,Sem.run_bind,Sem.run_pure,Result.andThen_ok,qA4,qBW]
 rw[List.append_toArray]
 exact zDG hb
theorem zYR{f:FuncId}{args:List Operand}{ts:Array TypeId}{as:List SV}{pre:List Ob}{res:D}{cids:List Nat}(ids cs:List Nat)(hx:oval σ x=.clo f cids)(hcs:cs.map (fun j=>ids.getD j 0)=cids)(hb:zAQ P f=true)(hc:zBX P f (as++cs.map fun j=>SV.ptr j 0) pre res)(ha:SArgs σ ids args as)(hp:Picks η ids pre)
  (hn:ids.Nodup) (hlen:ids.length=pre.length) (hu:zEr pre=true) (hbl:pre.all (Ob.below pre.length)=true) (hba:(as++cs.map fun j=>SV.ptr j 0).all (SV.bel pre.length)=true) :
  Ylds P η σ ⟨dst,.call ⟨.value x,args.toArray,ts⟩,ty,pos,after,gd⟩ (.d res):=by
 intro g w a hi hop
 obtain⟨cv,e1,e2,e3⟩:=zRi (g:=g) (w:=w) (a:=a) hx hcs (hop x pAG) (fun y hy=>hop y (by simp[Op.operands,Call.operands,hy])) ha
 refine .inr ⟨f,_,zKX e1 hb,?_⟩
 have hr:=RepSs.callee (g:=g) (w:=w) hlen _ _ e3 e2 hba
 refine(hc (zCG g ids) w _ (hi.callee hn hlen hp hu hbl) hr).mono fun e w' ⟨v,St',he,hrep,hbel,hkeep,hnew,hlt⟩=>?_
 exact⟨v,{ g with St:=St' },he,⟨rfl,rfl,rfl,rfl,hbel.os,hbel.tape,hbel.output,hbel.size,hbel.block,hkeep.sub,hnew,hlt⟩,hrep⟩
theorem zDa{f:FuncId}{args:List Operand}{ts:Array TypeId}{asx:List SV}{pre:List Ob}{res:D}{cids:List Nat}(ids cs:List Nat)(hx:oval σ x=.clo f cids)(hcs:cs.map (fun j=>ids.getD j 0)=cids)(hb:zAQ P f=true)(hc:zBX P f asx pre res)(hsp:asx.drop args.length=cs.map fun j=>SV.ptr j 0)(ha:SArgs σ ids args (asx.take args.length))(hp:Picks η ids pre)
  (hn:ids.Nodup) (hlen:ids.length=pre.length) (hu:zEr pre=true) (hbl:pre.all (Ob.below pre.length)=true) (hba:asx.all (SV.bel pre.length)=true) :
  Ylds P η σ ⟨dst,.call ⟨.value x,args.toArray,ts⟩,ty,pos,after,gd⟩ (.d res):=by
 have e:asx=asx.take args.length++cs.map fun j=>SV.ptr j 0:=by rw[<-hsp,qAi]
 exact zYR ids cs hx hcs hb (e▸hc) ha hp hn hlen hu hbl (e▸hba)
theorem qcA{f:FuncId}{args:List Operand}{ts:Array TypeId}{asx:List SV}{pre:List Ob}{res:D}{cids:List Nat}(ids:List Nat)(cs:List Nat)(hb:zAQ P f=true)(hc:zBX P f asx pre res)(hx:oval σ x=.clo f cids:=by exact rfl)(hcs:cs.map (fun j=>ids.getD j 0)=cids:=by exact rfl)(hsp:asx.drop args.length=cs.map fun j=>SV.ptr j 0:=by exact rfl)(ha:SArgs σ ids args (asx.take args.length):=by exact SArgs_all rfl)(hp:Picks η ids pre:=by exact rfl)(hn:ids.Nodup:=by decide)(hlen:ids.length=pre.length:=by exact rfl)(hu:zEr pre=true:=by exact rfl)(hbl:pre.all (Ob.below pre.length)=true:=by exact rfl)(hba:asx.all (SV.bel pre.length)=true:=by exact rfl): Ylds P η σ ⟨dst,.call ⟨.value x,args.toArray,ts⟩,ty,pos,after,gd⟩ (.d res):=zDa ids cs hx hcs hb hc hsp ha hp hn hlen hu hbl hba
theorem zWG{f:FuncId}{args:List Operand}{ts:Array TypeId}{ds:List D}{res:D}(hx:oval σ x=.clo f [])(hb:zAQ P f=true)(hc:zAX P f ds res)(ha:CoL η σ args ds):
  Ylds P η σ ⟨dst,.call ⟨.value x,args.toArray,ts⟩,ty,pos,after,gd⟩ (.d res):=by
 intro g w a hi hop
 have hr:=CoL.rep (a:=a) hi args ds (fun y hm=>hop y (by simp[Op.operands,Call.operands,hm])) ha
 have hxr:=hop x pAG;rw[hx]at hxr
 obtain⟨cv,h1,h2,_⟩:=hxr
 have:cv=[]:=qAf h2
 subst this
 refine .inr ⟨f,_,zKX h1 hb,?_⟩
 rw[qA0]
 refine(hc g.St w _ hi.st hi.gl hr).mono fun e w' ⟨v,St',he,hrep,hbel,hkeep,hnew,hlt⟩=>?_
 exact⟨v,{ g with St:=St' },he,⟨rfl,rfl,rfl,rfl,hbel.os,hbel.tape,hbel.output,hbel.size,hbel.block,hkeep.sub,hnew,hlt⟩,hrep⟩
end
section
variable {C:Ctx}{ops:Array Oper}{rest:List Oper}{K:Sl->List Ob->Prop}{σ:Sl}{η:List Ob}{d:Nat}{ty:TypeId}{pos:String}{after:Array Edge}{gd:Option (Nat×Bool)}{t:TypeId}{x y:Operand}
theorem zcI{f:FuncId}{args:List Operand}{ts:Array TypeId}{as:List SV}{pre post:List Ob}{res:SV}{cids:List Nat}(ids cs:List Nat)(hx:oval σ x=.clo f cids)(hcs:cs.map (fun j=>ids.getD j 0)=cids)(hb:zAQ C.P f=true)(hc:zBR C.P f (as++cs.map fun j=>SV.ptr j 0) pre res post)(ha:SArgs σ ids args as)(hp:Picks η ids pre)(hd:Nat.blt d C.N=true)
  (hn:ids.Nodup) (hlen:ids.length=pre.length) (hu:zEr pre=true) (hbl:pre.all (Ob.below pre.length)=true) (hba:(as++cs.map fun j=>SV.ptr j 0).all (SV.bel pre.length)=true) (hk:zEw pre post=true) (hro:ids.all (fun i=>Nat.ble C.ro i)=true)
  (h:alex C false ops rest K ((d,res.ren ids)::zGo (zCF ids pre) ids σ) (zEX (zFC (zCF ids pre) ids η) ids (post.map (Ob.ren ids)))) :
  zBJ C false ops ⟨some d,.call ⟨.value x,args.toArray,ts⟩,ty,pos,after,gd⟩ rest K σ η:=by
 intro Q hQ a w ⟨g,hg⟩ K' hK'
 obtain⟨cv,e1,e2,e3⟩:=zRi (g:=g) (w:=w) (a:=a) hx hcs (hg.eval x) (fun y _=>hg.eval y) ha
 unfold Oper.wp
 rw[zKX e1 hb,Oper.upon_enter]
 have hr:=RepSs.callee (g:=g) (w:=w) hlen _ _ e3 e2 hba
 refine(hc (zCG g ids) w _ (hg.inv.callee hn hlen hp hu hbl) hr).mono fun e w' ⟨v,g',he,hI,hres,hF⟩=>?_
 subst he
 obtain⟨hk1,hk2⟩:=zD2 hk
 obtain⟨g2,h1,h2⟩:=hg.called hn hlen hp hk1 hro hI hres hF
 obtain⟨e4,e5⟩:=zMT (ids:=ids) (η:=η) hk2
 rw[e4]at h1;rw[e5]at h2
 exact hK' _ _ (h Q hQ _ w' ⟨g2,h1.put (d:=some d) hd h2⟩)
theorem zcJ{f:FuncId}{args:List Operand}{ts:Array TypeId}{asx:List SV}{pre post:List Ob}{res:SV}{cids:List Nat}(ids cs:List Nat)(hx:oval σ x=.clo f cids)(hcs:cs.map (fun j=>ids.getD j 0)=cids)(hb:zAQ C.P f=true)(hc:zBR C.P f asx pre res post)(hsp:asx.drop args.length=cs.map fun j=>SV.ptr j 0)(ha:SArgs σ ids args (asx.take args.length))(hp:Picks η ids pre)(hd:Nat.blt d C.N=true)
  (hn:ids.Nodup) (hlen:ids.length=pre.length) (hu:zEr pre=true) (hbl:pre.all (Ob.below pre.length)=true) (hba:asx.all (SV.bel pre.length)=true) (hk:zEw pre post=true) (hro:ids.all (fun i=>Nat.ble C.ro i)=true)
  (h:alex C false ops rest K ((d,res.ren ids)::zGo (zCF ids pre) ids σ) (zEX (zFC (zCF ids pre) ids η) ids (post.map (Ob.ren ids)))) :
  zBJ C false ops ⟨some d,.call ⟨.value x,args.toArray,ts⟩,ty,pos,after,gd⟩ rest K σ η:=by
 have e:asx=asx.take args.length++cs.map fun j=>SV.ptr j 0:=by rw[<-hsp,qAi]
 exact zcI ids cs hx hcs hb (e▸hc) ha hp hd hn hlen hu hbl (e▸hba) hk hro h
end
section
variable {P:Program}{η:List Ob}{σ:Sl}{dst:Option Nat}{ty:TypeId}{pos:String}{after:Array Edge}{gd:Option (Nat×Bool)}{t yt:TypeId}{x y:Operand}
end
end Go.Sx
namespace Go.Sx
section
variable {P:Program}{η:List Ob}{σ:Sl}{dst:Option Nat}{ty:TypeId}{pos:String}{after:Array Edge}{gd:Option (Nat×Bool)}{t:TypeId}
end
open Go.RowKit Go.Lib
section
variable {C:Ctx}{σ:Sl}{η:List Ob}
theorem zJi{Q:Exit->Sl->List Ob->Prop}{c:Code}(id j:Nat)(mu:Bool)(e sz:Nat){k:Option Nat}{et:Option TypeId}{cs:List SV}(ho:η[id]?=some (.bx k et cs))(hj:cs[j]?=some .nil)(hro:Nat.ble C.ro η.length=true)
  (h:awp C c Q σ (η.set id (.bx k et (cs.set j (.buf η.length 0)))++[.buf mu e sz []])):awp C c Q σ η:=by
 intro R hR a w ⟨g,ha⟩
 refine h R hR a w ?_
 have hn:=ha.inv.n
 let g':Gh:={ g with blk:=upd g.blk g.n none,cap:=upd g.cap g.n 0,sz:=upd g.sz g.n sz,n:=g.n+1 }
 have hold:∀id,id<g.n->g'.blk id=g.blk id/\g'.cap id=g.cap id/\g'.sz id=g.sz id:=fun id hid=>by simp[g',upd,Nat.ne_of_lt hid]
 have hab:=ha.newOb (g':=g') (w':=w) (.buf mu e sz []) rfl rfl rfl (qAN _) (fun _ _=>rfl) rfl hold (fun id hid=>by
   have hne:id≠g.n:=by omega
   simp only[g',upd,if_neg hne]
   exact ha.inv.dead id oM) (fun b hb=>by simp[g',upd]at hb) (fun _ _ h=>h) (fun _ _ h=>.inl h) ha.inv.st (by rw[hn];exact qAM hro)
  ⟨by simp[g',upd],by simp,by simp[g',upd],by simp,.inl ⟨by simp[g',upd],by simp[g',upd]⟩⟩
 have hidl:id<η.length:=(qAA.1 ho).1
 refine⟨g',{ hab with inv:={ hab.inv with n:=by simpa using hab.inv.n,ob:=fun i o hi=>?_ } }⟩
 rcases qAF i η.length with hil|hil
 ·rw[qAG (by simpa using hil),qAh]at hi
  split at hi
  ·rename_i hc;subst hc
   try rw[if_pos hidl]at hi
   injection hi with hi;subst hi
   obtain⟨b,e',us,h1,h2,h3,h4,h5,h6,h7⟩:=hab.inv.ob id (.bx k et cs) (by rw[qAG hidl];exact ho)
   refine⟨b,e',us,h1,h2,by simpa using h3,h4,fun m u s hu hs=>?_,h6,h7⟩
   rw[qAh]at hs
   split at hs
   ·rename_i hm;subst hm
    have hjl:=(qAA.1 hj).1
    try rw[if_pos hjl]at hs
    injection hs with hs;subst hs
    have h8:u=.slice none 0 0:=h5 j u _ hu hj
    refine⟨by show η.length<g.n+1;omega,?_⟩
    rw[h8,<-hn];simp[g',upd]
   ·exact h5 m u s hu hs
  ·exact hab.inv.ob i o (by rw[qAG hil];exact hi)
 ·rw[qAD (by simpa using hil)]at hi
  exact hab.inv.ob i o (by rw[qAD hil];simpa using hi)
end
def zN4(tmps:Array Value): ResultVar->Sem Value
 | .tmp t=>pure (tmps.getD t undef)
 | .cell a t=>do loadVar t (<-asAddr (tmps.getD a undef))
theorem zQ9{P:Program}{w:World}{tmps:Array Value}: ∀(l:List ResultVar) (vs:List Value),l.length=vs.length->(∀(j:Nat) r v,l[j]?=some r->vs[j]?=some v->(zN4 tmps r).run P w=.ok v w)->(l.mapM (zN4 tmps)).run P w=.ok vs w
 |[],[],_,_=>rfl
 |r::l,v::vs,hl,h=>by
  have h0:=h 0 r v rfl rfl
  have ih:=zQ9 l vs (by simpa using hl) (fun j r v h1 h2=>h (j+1) r v (by simpa using h1) (by simpa using h2))
  rw[List.mapM_cons]
  simp only[Sem.run_bind,h0,Result.andThen_ok,ih,Sem.run_pure]
 |[],_::_,hl,_=>by simp at hl
 |_::_,[],hl,_=>by simp at hl
def tupV: List Value->Value
 |[v]=>v
 |vs=>.tuple vs.toArray
theorem zJc{P:Program}{w:World}{fn:Func}{tmps:Array Value}{l:List ResultVar}{vs:List Value}(hrs:fn.results=l.toArray)(hl:l.length=vs.length)(h:∀(j:Nat) r v,l[j]?=some r->vs[j]?=some v->(zN4 tmps r).run P w=.ok v w): (results fn tmps).run P w=.ok (tupV vs) w:=by
 have h1:=zQ9 l vs hl h
 have e:results fn tmps=(do let vs <-fn.results.mapM (zN4 tmps);pure (if h:vs.size=1 then vs[0]else .tuple vs)):=by
  unfold results;congr 2
 rw[e,hrs,Array.mapM_eq_mapM_toList]
 simp only[Sem.run_bind,Sem.run_map,h1,Sem.run_pure,Result.andThen_ok]
 match vs with
 |[]=>rfl
 |[v]=>rfl
 |v::u::r=>simp[tupV]
def CoV(η:List Ob): List SV->List D->Prop
 |[],[]=>True
 |s::ss,d::ds=>Co η s d/\CoV η ss ds
 |_,_=>False
theorem CoV.len{η:List Ob}: ∀{ss:List SV} {ds:List D},CoV η ss ds->ss.length=ds.length
 |[],[],_=>rfl
 |_::_,_::_,h=>by simp[CoV.len h.2]
 |[],_::_,h=>h.elim
 |_::_,[],h=>h.elim
theorem CoV.get{η:List Ob}: ∀{ss:List SV} {ds:List D},CoV η ss ds->∀(j:Nat) s d,ss[j]?=some s->ds[j]?=some d->Co η s d
 |s::ss,d::ds,h,0,s',d',h1,h2=>by simp at h1 h2;subst h1;subst h2;exact h.1
 |s::ss,d::ds,h,j+1,s',d',h1,h2=>CoV.get h.2 j s' d' (by simpa using h1) (by simpa using h2)
 |[],[],_,j,_,_,h1,_=>by simp at h1
 |[],_::_,h,_,_,_,_,_=>h.elim
 |_::_,[],h,_,_,_,_,_=>h.elim
theorem zZF{η:List Ob}: ∀{ss:List SV} {ds:List D},toDs ss=some ds->CoV η ss ds
 |[],ds,h=>by simp[toDs]at h;subst h;trivial
 |s::r,ds,h=>by
  cases s <;> simp only[toDs]at h
  all_goals first
   |(cases h;done)
   |(cases h2:toDs r with
     |none=>rw[h2]at h;cases h
     |some ds'=>rw[h2]at h;cases h;exact⟨by first|exact rfl|exact .inl rfl,zZF h2⟩)
def RVal(P:Program)(σ:Sl)(η:List Ob): ResultVar->D->Prop
 | .tmp r,d=>Co η (get σ r) d
 | .cell a t,d=>∃id o n kb et cs,get σ a=.ptr id o/\η[id]?=some (.bx kb et cs)/\
   ((zBh P t=some (true,n)/\o+n<=cs.length/\∃ds,CoV η ((cs.drop o).take n) ds/\d=.agg ds)\/(zBh P t=some (false,n)/\∃s,cs[o]?=some s/\Co η s d))
def RVals(P:Program)(σ:Sl)(η:List Ob): List ResultVar->List D->Prop
 |[],[]=>True
 |r::rs,d::ds=>RVal P σ η r d/\RVals P σ η rs ds
 |_,_=>False
def ResC(P:Program)(rs:Array ResultVar)(σ:Sl)(η:List Ob)(res:D): Prop :=
 match rs.toList,res with
 |[r],d=>RVal P σ η r d
 |l,.tup ds=>RVals P σ η l ds
 |_,_=>False
def zBP(P:Program)(rs:Array ResultVar)(res:D): Exit->Sl->List Ob->Prop
 | .ret,σ,η=>ResC P rs σ η res
 | .normal,σ,η=>ResC P rs σ η res
 |_,_,_=>False
theorem zAv{P:Program}{rs:Array ResultVar}{res:D}{σ:Sl}{η:List Ob}(h:ResC P rs σ η res): zBP P rs res .ret σ η:=h
section
variable {P:Program}{σ:Sl}{η:List Ob}
theorem zBI{r1 r2:ResultVar}{rs:List ResultVar}{ds:List D}(h:RVals P σ η (r1::r2::rs) ds): ResC P (r1::r2::rs).toArray σ η (.tup ds):=h
theorem zGA{r:ResultVar}{d:D}(h:RVals P σ η [r] [d]): ResC P [r].toArray σ η d:=h.1
theorem zBg: RVals P σ η [] []:=trivial
theorem RV_d{r:Nat}{d d':D}{rs:List ResultVar}{ds:List D}(h:get σ r=.d d')(h2:RVals P σ η rs ds)(e:d'=d): RVals P σ η (.tmp r::rs) (d::ds):=by
 subst e;exact⟨by show Co η (get σ r) _;rw[h];rfl,h2⟩
theorem RV_c{a t id o n:Nat}{kb:Option Nat}{et:Option TypeId}{cs:List SV}{ds':List D}{d:D}{rs:List ResultVar}{ds:List D}(h:get σ a=.ptr id o)(ho:η[id]?=some (.bx kb et cs))(ht:zBh P t=some (true,n))(hl:Nat.ble (o+n) cs.length=true)(hs:toDs ((cs.drop o).take n)=some ds')(h2:RVals P σ η rs ds)(e:D.agg ds'=d): RVals P σ η (.cell a t::rs) (d::ds):=by
 subst e;exact⟨⟨id,o,n,kb,et,cs,h,ho,.inl ⟨ht,qAM hl,ds',zZF hs,rfl⟩⟩,h2⟩
end
theorem RVal.run{P:Program}{r:ResultVar}{σ:Sl}{η:List Ob}{d:D}{g:Gh}{w:World}{a:Act}{C:Ctx}(h:RVal P σ η r d)(ha:AbsG C g σ η a w): ∃v,(zN4 a.tmps r).run P w=.ok v w/\RepD g.St w v d:=by
 cases r with
 |tmp r=>exact⟨_,rfl,Co.rep ha.inv (ha.rep r) h⟩
 |cell r t =>
  obtain⟨id,o,n,kb,et,cs,h0,ho,h⟩:=h
  have h1:=ha.rep r;rw[h0]at h1
  obtain⟨hid,b,hb,hv⟩:=h1
  obtain⟨b',e,us,h2,h3,h4,h5,h6,h7,_⟩:=ha.inv.ob id _ ho
  rw[hb]at h2;injection h2 with h2;subst h2
  rcases h with⟨ht,hl,ds,hs,rfl⟩|⟨ht,s,hs,hc⟩
  ·have hrun:=run_loadCells_list (P:=P) w ⟨b,o,none⟩ ((us.toList.drop o).take n) (fun j v hj=>by
    rw[qAd]at hj
    split at hj
    ·rw[Addr.add_lit,cell_of_row w b _ us e (0,0) h3]
     simpa using hj
    ·cases hj)
   have hlen:((us.toList.drop o).take n).length=n:=by rw[qAU,qAg,qAV];omega
   rw[hlen]at hrun
   have e1:=hs.len
   have hcl:((cs.drop o).take n).length=n:=by rw[qAU,qAg];omega
   refine⟨.agg ((us.toList.drop o).take n).toArray,?_,.agg _ _ oM (fun u hm=>h5 u (Array.mem_toList_iff.1 (qBV (qA3 hm)))) (fun j u d hj hd=>?_)⟩
   ·simp only[zN4,hv,asAddr,loadVar,Sem.run_bind,Sem.run_pure,Result.andThen_ok,(zCb ht w).1,(zCb ht w).2,if_true,hrun]
   ·have hjl:j<n:=by
     have:=(qAA.1 hj).1;omega
    have hsj:((cs.drop o).take n)[j]?=some (((cs.drop o).take n)[j]' oM):=qAB oM
    refine Co.rep ha.inv (h6 (o+j) u _ ?_ ?_) (hs.get j _ d hsj hd)
    ·rw[qAd,if_pos hjl]at hj;simpa using hj
    ·rw[<-hsj,qAd,if_pos hjl];simp
  ·have hlt:o<us.size:=by rw[h4];exact(qAA.1 hs).1
   refine⟨us[o],?_,Co.rep ha.inv (h6 o _ _ (qAP hlt) hs) hc⟩
   have hcell:w.cell? ⟨b,o,none⟩=some us[o]:=by rw[cell_of_row w b o us e (0,0) h3];exact qAP hlt
   simp[zN4,hv,asAddr,loadVar,(zCb ht w).1,hcell]
theorem RVals.run{P:Program}{σ:Sl}{η:List Ob}{g:Gh}{w:World}{a:Act}{C:Ctx}(ha:AbsG C g σ η a w): ∀{rs:List ResultVar} {ds:List D},RVals P σ η rs ds->∃vs:List Value,rs.length=vs.length/\vs.length=ds.length/\(∀(j:Nat) r v,rs[j]?=some r->vs[j]?=some v->(zN4 a.tmps r).run P w=.ok v w)/\∀(j:Nat) v d,vs[j]?=some v->ds[j]?=some d->RepD g.St w v d
 |[],[],_=>⟨[],rfl,rfl,fun j r v h=>by simp at h,fun j v d h=>by simp at h⟩
 |r::rs,d::ds,h=>by
  obtain⟨v,h1,h2⟩:=h.1.run ha
  obtain⟨vs,e1,e2,e3,e4⟩:=RVals.run ha h.2
  refine⟨v::vs,by simp[e1],by simp[e2],fun j r' v' hr hv=>?_,fun j v' d' hv hd=>?_⟩
  ·cases j with
   |zero=>simp at hr hv;subst hr;subst hv;exact h1
   |succ j=>exact e3 j r' v' (by simpa using hr) (by simpa using hv)
  ·cases j with
   |zero=>simp at hv hd;subst hv;subst hd;exact h2
   |succ j=>exact e4 j v' d' (by simpa using hv) (by simpa using hd)
 |[],_::_,h=>h.elim
 |_::_,[],h=>h.elim
theorem ResC.run{rs:Array ResultVar}{σ:Sl}{η:List Ob}{res:D}{P:Program}{fn:Func}{g:Gh}{w:World}{a:Act}{C:Ctx}(hrs:fn.results=rs)(h:ResC P rs σ η res)(ha:AbsG C g σ η a w): ∃v,(results fn a.tmps).run P w=.ok v w/\RepD g.St w v res:=by
 obtain⟨rl⟩:=rs
 unfold ResC at h
 split at h
 ·rename_i r hr
  simp at hr;subst hr
  obtain⟨v,h1,h2⟩:=h.run ha
  refine⟨v,zJc (l:=[r]) (vs:=[v]) hrs rfl (fun j r' v' hr hv=>?_),h2⟩
  cases j with
  |zero=>simp at hr hv;subst hr;subst hv;exact h1
  |succ j=>simp at hr
 ·rename_i ds hne
  obtain⟨vs,e1,e2,e3,e4⟩:=RVals.run ha h
  refine⟨tupV vs,zJc hrs e1 e3,?_⟩
  have e5:tupV vs=.tuple vs.toArray:=by
   match vs,rl with
   |[],_=>rfl
   |[v],[r]=>exact absurd rfl (hne r)
   |[v],[]=>simp at e1
   |[v],_::_::_=>simp at e1
   |v::u::r,_=>rfl
  rw[e5];exact .tup vs ds e2 e4
 ·exact h.elim
theorem zBw{P:Program}{f:FuncId}{fn:Func}{c:Code}{ds:List D}{res:D}{N:Nat}{rs:Array ResultVar}(hf:P.funcs[f]?=some fn)(hb:fn.body=some c)(hN:fn.ntmps=N)(hrs:fn.results=rs)(hl:Nat.ble ds.length N=true)
  (h:∀(w0:World) (St0:Stab),awp ⟨P,N,w0,St0,fun _=>False,0⟩ c (zBP P rs res) (zQD ds 0) []):zAX P f ds res:=by
 intro St w vs hst hgl hrep
 subst hN
 have hl:=qAM hl
 have hlen:=hrep.len
 refine calls_of_wp hf hb (h w St _ ?_ _ _ ?_)
 ·intro e σ' η' a' w' hq ⟨g,ha⟩
  have fin:ResC P rs σ' η' res->a'.defers=[]/\∃v,(results fn a'.tmps).run P w' = .ok v w'/\∃v_1 St',Ending.returned v=.returned v_1/\RepD St' w' v_1 res/\Below w.heap.size w w'/\Keep St w St' w'/\
   (∀b o,St' b o->St b o\/w.heap.size<=b)/\(∀b o,St' b o->b<w'.heap.size):=by
   intro hq
   obtain⟨v,hr,hd⟩:=hq.run (P:=P) hrs ha
   refine⟨ha.defers,v,hr,v,g.St,rfl,hd,⟨ha.os,ha.tape,ha.output,ha.wsize,fun k hk=>ha.heap k hk (fun h=>h)⟩,ha.keep,fun b o hb=>?_,ha.inv.st⟩
   rcases ha.new b o hb with h1|h1|h1
   ·exact .inl h1
   ·exact .inr h1
   ·exact h1.elim
  cases e <;> first|exact fin hq|exact hq.elim
 ·refine⟨⟨St,fun _=>none,fun _=>0,fun _=>0,0⟩,rfl,?_,⟨rfl,fun _ _ h=>by simp at h,fun _ _=>rfl,fun _ _ _ h=>by simp at h,fun _ _ h=>by simp at h,hst,hgl⟩,rfl,rfl,rfl,qAN _,fun _ _ _=>rfl,Keep.refl St w,fun _ _ h=>.inl h,fun _ _ h=>by simp at h,?_⟩
  ·simp[hlen];omega
  ·refine zIz vs ds 0 _ hrep fun j v hj=>?_
   have hjl:j<vs.length:=(qAA.1 hj).1
   simp only[qAS,qAQ]
   rw[qAl (by simpa using hjl)]
   simp[hj]
theorem zOA{P:Program}{f:FuncId}{fn:Func}{c:Code}{as:List SV}{pre:List Ob}{res:D}{N:Nat}{rs:Array ResultVar}(hf:P.funcs[f]?=some fn)(hb:fn.body=some c)(hN:fn.ntmps=N)(hrs:fn.results=rs)(hl:Nat.ble as.length N=true)
  (h:∀(w0:World) (St0:Stab),awp ⟨P,N,w0,St0,fun _=>False,pre.length⟩ c (zBP P rs res) (zN2 as 0) pre):zBX P f as pre res:=by
 intro g w vs hi hrep
 subst hN
 have hl:=qAM hl
 have hlen:=hrep.len
 refine calls_of_wp hf hb (h w g.St _ ?_ _ _ ?_)
 ·intro e σ' η' a' w' hq ⟨g',ha⟩
  have fin:ResC P rs σ' η' res->a'.defers=[]/\∃v,(results fn a'.tmps).run P w' = .ok v w'/\∃v_1 St',Ending.returned v=.returned v_1/\RepD St' w' v_1 res/\Below w.heap.size w w'/\Keep g.St w St' w'/\
   (∀b o,St' b o->g.St b o\/w.heap.size<=b)/\(∀b o,St' b o->b<w'.heap.size):=by
   intro hq
   obtain⟨v,hr,hd⟩:=hq.run (P:=P) hrs ha
   refine⟨ha.defers,v,hr,v,g'.St,rfl,hd,⟨ha.os,ha.tape,ha.output,ha.wsize,fun k hk=>ha.heap k hk (fun h=>h)⟩,ha.keep,fun b o hb=>?_,ha.inv.st⟩
   rcases ha.new b o hb with h1|h1|h1
   ·exact .inl h1
   ·exact .inr h1
   ·exact h1.elim
  cases e <;> first|exact fin hq|exact hq.elim
 ·refine⟨g,rfl,?_,hi,rfl,rfl,rfl,qAN _,fun _ _ _=>rfl,Keep.refl g.St w,fun _ _ h=>.inl h,fun i b hb hr=>?_,?_⟩
  ·simp[hlen];omega
  ·exfalso
   have h1:pre.length<=i:=hr
   have h2:=hi.dead i (by rw[hi.n];exact h1)
   rw[hb]at h2;cases h2
  ·refine zHJ vs as 0 _ hrep fun j v hj=>?_
   have hjl:j<vs.length:=(qAA.1 hj).1
   simp only[qAS,qAQ]
   rw[qAl (by simpa using hjl)]
   simp[hj]
section
variable {C:Ctx}{ops:Array Oper}{rest:List Oper}{K:Sl->List Ob->Prop}{σ:Sl}{η:List Ob}
theorem zQF(id:Nat){mu:Bool}{e sz:Nat}{xs:List D}(ho:η[id]?=some (.buf mu e sz xs))(_hmu:mu=true)(hro:Nat.ble C.ro id=true)(h:alex C false ops rest K σ (η.set id (.buf false e sz xs))): alex C false ops rest K σ η:=by
 intro Q hQ a w ⟨g,ha⟩
 refine h Q hQ a w ?_
 have hidl:id<η.length:=(qAA.1 ho).1
 have hro:=qAM hro
 obtain⟨o1,o2,o3,o4,o5⟩:=ha.inv.ob id _ ho
 let g':Gh:={ g with St:=fun b o=>g.St b o\/(g.blk id=some b/\o<xs.length*sz) }
 have kp:Keep g.St w g'.St w:=⟨fun _ _ h=>.inl h,fun _ _ _ _ h=>h,fun _ _=>rfl⟩
 have re:∀{v:Value} {s:SV},RepS g w v s->RepS g' w v s:=fun r=>r.ext kp (fun _ _=>⟨rfl,rfl,rfl⟩) (qAN _)
 have lt:∀b o,g'.St b o->b<w.heap.size:=fun b o hb=>by
  rcases hb with hb|⟨hb,_⟩
  ·exact ha.inv.st b o hb
  ·exact ha.inv.lt id b hb
 refine⟨g',ha.defers,ha.size,⟨by rw[qAv];exact ha.inv.n,ha.inv.lt,ha.inv.dead,ha.inv.inj,fun i o hi=>?_,lt,ha.inv.gl.keep kp⟩,ha.os,ha.tape,ha.output,ha.wsize,ha.heap,ha.keep.trans kp,fun b o hb=>?_,ha.own,fun t=>re (ha.rep t)⟩
 ·rw[qAh]at hi
  split at hi
  ·rename_i e;subst e
   try rw[if_pos hidl]at hi
   injection hi with hi;subst hi
   refine⟨o1,o2,o3,o4,?_⟩
   rcases o5 with o5|⟨b,us,h1,h2,h3,h4,h5,h6⟩
   ·exact .inl o5
   ·refine .inr ⟨b,us,h1,h2,h3,h4,fun j u d hu hd=>(h5 j u d hu hd).keep kp,fun o=>⟨fun hb=>?_,fun hb=>.inr ⟨h1,hb.2⟩⟩⟩
    rcases hb with hb|⟨_,hb⟩
    ·exact⟨rfl,((h6 o).1 hb).2⟩
    ·exact⟨rfl,hb⟩
  ·rename_i e
   refine(ha.inv.ob i o hi).ext kp (fun _ _=>⟨rfl,rfl,rfl⟩) (qAN _) (by rw[ha.inv.n];exact(qAA.1 hi).1) (fun b hb=>⟨rfl,fun o=>⟨fun ho=>?_,fun h=>.inl h⟩⟩)
   rcases ho with ho|⟨ho,_⟩
   ·exact ho
   ·exact absurd (ha.inv.inj i id b hb ho) (fun h=>e h.symm)
 ·rcases hb with hb|⟨hb,_⟩
  ·exact ha.new b o hb
  ·exact(ha.own id b hb hro).elim (fun h=>.inr (.inl h)) (fun h=>.inr (.inr h))
end
end Go.Sx
namespace Go.Sx
open Go.RowKit
section
variable {κ:Type}[DecidableEq κ]
def zES: List (κ×D)->κ->Option D
 |[],_=>none
 |(k,d)::r,a=>if k=a then some d else zES r a
def putK: List (κ×D)->κ->D->List (κ×D)
 |[],a,d=>[(a,d)]
 |(k,e)::r,a,d=>if k=a then(k,d)::r else(k,e)::putK r a d
def idxK: List (κ×D)->κ->Nat
 |[],_=>0
 |(k,_)::r,a=>if k=a then 0 else idxK r a+1
def kvs(enc:κ->Value)(L:List (κ×D)): List (Value×D):=L.map fun p=>(enc p.1,p.2)
omit [DecidableEq κ] in
theorem zKn{enc:κ->Value}{L:List (κ×D)}: (kvs enc L).length=L.length:=by simp[kvs]
omit [DecidableEq κ] in
theorem zJK{enc:κ->Value}{L:List (κ×D)}{j:Nat}: (kvs enc L)[j]?=(L[j]?).map fun p=>(enc p.1,p.2):=by simp[kvs]
theorem zFi: ∀{L:List (κ×D)} {a:κ} {d:D},zES L a=some d->L[idxK L a]?=some (a,d)/\∀e,putK L a e=L.set (idxK L a) (a,e)
 |[],_,_,h=>by cases h
 |(k,e)::r,a,d,h=>by
  unfold zES at h
  unfold idxK
  split at h
  ·rename_i hk
   injection h with h;subst h;subst hk
   exact⟨by simp,fun e'=>by simp[putK]⟩
  ·rename_i hk
   obtain⟨h1,h2⟩:=zFi h
   exact⟨by simp[hk,h1],fun e'=>by simp[putK,hk,h2]⟩
theorem zJJ: ∀{L:List (κ×D)} {a:κ},zES L a=none->(∀p∈L,p.1≠a)/\(∀e,putK L a e=L++[(a,e)])/\idxK L a=L.length
 |[],_,_=>⟨by simp,fun e=>rfl,rfl⟩
 |(k,e)::r,a,h=>by
  unfold zES at h
  split at h
  ·cases h
  ·rename_i hk
   obtain⟨h1,h2,h3⟩:=zJJ h
   exact⟨fun p hp=>by rcases qAq.1 hp with rfl|hp;exact hk;exact h1 p hp,fun e'=>by simp[putK,hk,h2],by simp[idxK,hk,h3]⟩
structure KeyOk(P:Program)(K:TypeId)(enc:κ->Value): Prop where
 ex:∃kind,P.underlying K=some kind/\(∀a,MapKept.IsKey kind (enc a))/\(∀a b,Instr.sameNow kind (enc a) (enc b)=some (decide (a=b)))/\∀a,Instr.sameBits 10000 (enc a) (enc a)=true
theorem zGe{kind:TypeDesc}{enc:κ->Value}(hs:∀a b,Instr.sameNow kind (enc a) (enc b)=some (decide (a=b)))(a:κ): ∀(es:List MapEntry) (L:List (κ×D)) (i:Nat),es.length=L.length->
  (∀(j:Nat) e p,es[j]?=some e->L[j]?=some p->e.key=enc p.1)->
  (zES L a=none/\Instr.findNow kind (enc a) es i=some none)\/∃e d,es[idxK L a]?=some e/\zES L a=some d/\Instr.findNow kind (enc a) es i=some (some (i+idxK L a,e.val))
 |[],[],i,_,_=>.inl ⟨rfl,rfl⟩
 |e::es,(k,d)::L,i,hl,h=>by
  have hk:=h 0 e (k,d) rfl rfl
  have h1:=hs a k
  simp only at hk
  unfold Instr.findNow
  rw[hk,h1]
  by_cases hc:k=a
  ·subst hc
   exact .inr ⟨e,d,by simp[idxK],by simp[zES],by simp[idxK]⟩
  ·have hc':¬a=k:=fun e=>hc e.symm
   simp only[hc',decide_false]
   rcases zGe hs a es L (i+1) (by simpa using hl) (fun j e p he hp=>h (j+1) e p (by simpa using he) (by simpa using hp))with⟨h2,h3⟩|⟨e2,d2,h2,h3,h4⟩
   ·exact .inl ⟨by simp[zES,hc,h2],h3⟩
   ·exact .inr ⟨e2,d2,by simp[idxK,hc,h2],by simp[zES,hc,h3],by rw[h4];simp[idxK,hc];omega⟩
 |[],_::_,_,hl,_=>by simp at hl
 |_::_,[],_,hl,_=>by simp at hl
end
theorem zRj(a b:List UInt8): ((⟨a.toArray⟩:ByteArray) == ⟨b.toArray⟩)=decide (a=b):=by
 show (a.toArray==b.toArray)=decide (a=b)
 by_cases h:a=b
 ·subst h;simp
 ·simp[h]
theorem zHH{P:Program}{K:TypeId}(h:P.underlying K=some .string): KeyOk P K (fun l:List UInt8=>Value.string ⟨l.toArray⟩) :=
 ⟨_,h,fun _=>trivial,fun a b=>by simp only[Instr.sameNow,zRj],fun a=>by simp only[Instr.sameBits,zRj,decide_true]⟩
def zGR(P:Program)(t:TypeId): Option (TypeId×TypeId) :=
 match P.underlying t with
 |some (.map k e)=>some (k,e)
 |_=>none
theorem zDs{P:Program}{t k e:TypeId}(h:zGR P t=some (k,e)): P.underlying t=some (.map k e):=by
 unfold zGR at h
 split at h
 ·rename_i hu;simp only[qBt,Prod.mk.injEq]at h;rw[hu,h.1,h.2]
 ·cases h
def zKH(P:Program)(e:TypeId): Option D :=
 match P.info? e with
 |some i=>match i.zero with
  |some z=>match z.oneCell' with
   |true=>some (zdv z)
   |false=>none
  |none=>none
 |none=>none
theorem zNX{P:Program}{e:TypeId}{zd:D}(h:zKH P e=some zd): ∃z,(∀w,(zeroValue e).run P w=.ok z w)/\∀St w,RepD St w z zd:=by
 unfold zKH at h
 split at h
 ·rename_i i hi
  split at h
  ·rename_i z hz
   split at h
   ·injection h with h;subst h
    exact⟨z,fun w=>by simp[zeroValue,typeInfo,hi,hz],fun St w=>zI7 St w z⟩
   ·cases h
  ·cases h
 ·cases h
section
variable {P:Program}{η:List Ob}{σ:Sl}{dst:Option Nat}{ty:TypeId}{pos:String}{after:Array Edge}{gd:Option (Nat×Bool)}{t:TypeId}{x y:Operand}{κ:Type}[DecidableEq κ]{enc:κ->Value}
theorem zI2{i:Nat}(h:oval σ x=.mp i): Ylds P η σ ⟨dst,.move x,ty,pos,after,gd⟩ (.mp i):=zHR (.inl rfl) h
theorem zQK{i:Nat}(h:oval σ x=.mp i): Ylds P η σ ⟨dst,.assign x,ty,pos,after,gd⟩ (.mp i):=zHR (.inr rfl) h
theorem zW5{g:Gh}{w:World}{id:Nat}{kb:Option Nat}{l:List (Value×D)}: ObOk g w id (.map kb l)↔∃b es,g.blk id=some b/\w.heap[b]?=some (.map es l.length)/\es.size=l.length/\
  (∀(j:Nat) (e:MapEntry) (p:Value×D),es[j]?=some e->l[j]?=some p->e.born=j/\e.key=p.1/\RepD g.St w e.val p.2)/\(∀o,¬g.St b o)/\∀c,kb=some c->c=b:=by
 constructor
 ·rintro⟨b,es,ck,h1,h2,h3,h4,h5,h6,h7⟩
  obtain⟨rfl,h8⟩:=h7 rfl
  exact⟨b,es,h1,h2,h3,fun j e p he hp=>⟨h8 j e he,h4 j e p he hp⟩,h5,h6⟩
 ·rintro⟨b,es,h1,h2,h3,h4,h5,h6⟩
  refine⟨b,es,_,h1,h2,h3,fun j e p he hp=>(h4 j e p he hp).2,h5,h6,fun _=>⟨rfl,fun j e he=>?_⟩⟩
  have hj:j<l.length:=by rw[<-h3];exact(qAn.1 he).1
  exact(h4 j e _ he (qAB hj)).1
omit [DecidableEq κ] in
theorem zYk{g:Gh}{w:World}{id:Nat}{kb:Option Nat}{L:List (κ×D)}(h:ObOk g w id (.map kb (kvs enc L))): ∃b es,g.blk id=some b/\w.heap[b]?=some (.map es L.length)/\es.toList.length=L.length/\
  (∀(j:Nat) e p,es.toList[j]?=some e->L[j]?=some p->e.key=enc p.1)/\(∀(j:Nat) e p,es.toList[j]?=some e->L[j]?=some p->e.born=j/\RepD g.St w e.val p.2)/\∀o,¬g.St b o:=by
 obtain⟨b,es,h1,h2,h3,h4,h5,_⟩:=zW5.1 h
 rw[zKn]at h2 h3
 refine⟨b,es,h1,h2,by simpa using h3,fun j e p he hp=>?_,fun j e p he hp=>?_,h5⟩
 ·exact(h4 j e (enc p.1,p.2) (by simpa using he) (by rw[zJK,hp];rfl)).2.1
 ·have:=h4 j e (enc p.1,p.2) (by simpa using he) (by rw[zJK,hp];rfl);exact⟨this.1,this.2.2⟩
theorem zXF{g:Gh}{w:World}{id k e:Nat}{kb:Option Nat}{L:List (κ×D)}{zd:D}(h:ObOk g w id (.map kb (kvs enc L)))(ht:zGR P t=some (k,e))(hk:KeyOk P k enc)(hz:zKH P e=some zd)(a:κ)(c:Bool):
  ∃b v,g.blk id=some b/\(Instr.lookup t (.map (some b)) (enc a) c).run P w=.ok (if c then .tuple #[v,.bool (zES L a).isSome]else v) w/\RepD g.St w v ((zES L a).getD zd):=by
 obtain⟨b,es,h1,h2,h3,h4,h5,_⟩:=zYk h
 obtain⟨kind,k1,k2,k3,k4⟩:=hk.ex
 obtain⟨z,z1,z2⟩:=zNX hz
 have hck:=MapKept.run_checkKey (w:=w) k1 (k2 a) es.isEmpty 9999
 rcases zGe k3 a es.toList L 0 h3 h4 with⟨f1,f2⟩|⟨e0,d0,f1,f2,f3⟩
 ·refine⟨b,z,h1,?_,by rw[f1];exact z2 _ _⟩
  simp only[Instr.lookup,Sem.run_bind,run_underlying (zDs ht),MapKept.run_getObj_map h2,hck,MapKept.run_findKey k1 f2,z1,f1,Result.andThen,Sem.run_pure]
  cases c <;> rfl
 ·have hp:=(zFi f2).1
  refine⟨b,e0.val,h1,?_,by rw[f2];exact(h5 _ _ _ f1 hp).2⟩
  simp only[Instr.lookup,Sem.run_bind,run_underlying (zDs ht),MapKept.run_getObj_map h2,hck,MapKept.run_findKey k1 f3,f2,Result.andThen,Sem.run_pure]
  cases c <;> rfl
theorem zWJ{id k e:Nat}{kb:Option Nat}{L:List (κ×D)}{a:κ}{zd:D}(hx:oval σ x=.mp id)(ho:η[id]?=some (.map kb (kvs enc L)))(hy:oval σ y=.d (.val (enc a)))(ht:zGR P t=some (k,e))(hk:KeyOk P k enc)(hz:zKH P e=some zd):
  Ylds P η σ ⟨dst,.lookup t x y true,ty,pos,after,gd⟩ (.d (.tup [(zES L a).getD zd,.val (.bool (zES L a).isSome)])):=by
 refine Ylds.same fun g w ac hi h=>?_
 have h1:=h x sO;rw[hx]at h1
 have h2:=h y sO;rw[hy]at h2
 obtain⟨_,b,hb,hv⟩:=h1
 obtain⟨b',v,hb',hr,hd⟩:=zXF (hi.ob id _ ho) ht hk hz a true
 rw[hb]at hb';injection hb' with hb';subst hb'
 refine⟨.tuple #[v,.bool (zES L a).isSome],by simp only[execOp,hv,RepD.val_eq h2,Sem.run_bind,hr];rfl,.tup [_,_] _ rfl fun j u d hu hd'=>?_⟩
 match j with
 |0=>simp at hu hd';subst hu;subst hd';exact hd
 |1=>simp at hu hd';subst hu;subst hd';exact .val _
 |j+2=>simp at hu
theorem zWI{id k e:Nat}{kb:Option Nat}{L:List (List UInt8×D)}{a:List UInt8}{zd:D}(hx:oval σ x=.mp id)(ho:η[id]?=some (.map kb (kvs (fun l=>.string ⟨l.toArray⟩) L)))(hy:oval σ y=.d (str a))(ht:zGR P t=some (k,e))(hk:P.underlying k=some .string)(hz:zKH P e=some zd):
  Ylds P η σ ⟨dst,.lookup t x y true,ty,pos,after,gd⟩ (.d (.tup [(zES L a).getD zd,.val (.bool (zES L a).isSome)])):=zWJ hx ho hy ht (zHH hk) hz
end
section
variable {C:Ctx}{ops:Array Oper}{rest:List Oper}{K:Sl->List Ob->Prop}{σ:Sl}{η:List Ob}{d:Nat}{ty:TypeId}{pos:String}{after:Array Edge}{gd:Option (Nat×Bool)}{t:TypeId}{x y z:Operand}
theorem AbsG.setObj{g:Gh}{a:Act}{w w':World}(h:AbsG C g σ η a w){id b:Nat}{o:Ob}(hidl:id<η.length)(hb:g.blk id=some b)(hro:C.ro<=id)(hst:∀o,¬g.St b o)
  (os:w'.os=w.os) (tape:w'.tape=w.tape) (output:w'.output=w.output) (hsz:w'.heap.size=w.heap.size) (hoth:∀k,k≠b->w'.heap[k]?=w.heap[k]?)
  (ok:Keep g.St w g.St w'->ObOk g w' id o):AbsG C g σ (η.set id o) a w':=by
 have kp:Keep g.St w g.St w':=⟨fun _ _ h=>h,fun c o u hc hu=>(World.cell?_of_block (a:=⟨c,o,none⟩) (hoth c (fun e=>hst o (e▸hc)))).trans hu,fun c hc=>hoth c (fun e=>hst 0 (e▸hc 0))⟩
 have rk:∀{v:Value} {s':SV},RepS g w v s'->RepS g w' v s':=fun r=>r.ext kp (fun _ _=>⟨rfl,rfl,rfl⟩) (qAN _)
 refine⟨h.defers,h.size,⟨by rw[qAv];exact h.inv.n,fun i c hc=>by rw[hsz];exact h.inv.lt i c hc,h.inv.dead,h.inv.inj,fun i o' ho=>?_,fun c o hc=>by rw[hsz];exact h.inv.st c o hc,h.inv.gl.keep kp⟩,os.trans h.os,tape.trans h.tape,output.trans h.output,by rw[hsz];exact h.wsize,
  fun k hk hx=>?_,h.keep.trans kp,h.new,h.own,fun t=>rk (h.rep t)⟩
 ·rw[qAh]at ho
  split at ho
  ·rename_i hc;subst hc
   try rw[if_pos hidl]at ho
   injection ho with ho;subst ho
   exact ok kp
  ·rename_i hc
   refine(h.inv.ob i o' ho).ext kp (fun _ _=>⟨rfl,rfl,rfl⟩) (qAN _) (by rw[h.inv.n];exact(qAA.1 ho).1) (fun c hcb=>⟨hoth c (fun e=>?_),fun _=>Iff.rfl⟩)
   subst e
   exact hc (h.inv.inj id i c hb hcb)
 ·rw[hoth k (fun e=>?_)]
  ·exact h.heap k hk hx
  ·subst e
   rcases h.own id k hb hro with h2|h2
   ·omega
   ·exact hx h2
theorem AbsG.allocOb{g:Gh}{a:Act}{w:World}(ha:AbsG C g σ η a w)(ob:Obj)(o:Ob)(s:SV)(v:Value)(hd:Nat.blt d C.N=true)(hro:C.ro<=η.length)
  (ok:∀g':Gh,g'.n=g.n+1->g'.blk g.n=some w.heap.size->(∀id,id<g.n->g'.blk id=g.blk id)->g'.St=g.St->(∀o,¬g'.St w.heap.size o)->ObOk g' (w.alloc ob) g.n o/\RepS g' (w.alloc ob) v s) :
  Abs C ((d,s)::σ) (η++[o]) (a.put (some d) v) (w.alloc ob):=by
 have hn:=ha.inv.n
 let g':Gh:={ g with blk:=upd g.blk g.n (some w.heap.size),n:=g.n+1 }
 have hold:∀id,id<g.n->g'.blk id=g.blk id/\g'.cap id=g.cap id/\g'.sz id=g.sz id:=fun id hid=>⟨by simp[g',upd,Nat.ne_of_lt hid],rfl,rfl⟩
 have hbn:g'.blk g.n=some w.heap.size:=by simp[g',upd]
 obtain⟨ok1,ok2⟩:=ok g' rfl hbn (fun id hid=>(hold id hid).1) rfl (fun o ho=>absurd (ha.inv.st _ o ho) oM)
 have hab:=ha.newOb (g':=g') (w':=w.alloc ob) o rfl rfl rfl sI (fun k hk=>Below.heap_alloc w _ k hk) rfl hold
  (fun id hid=>by
   have hne:id≠g.n:=by omega
   simp only[g',upd,if_neg hne]
   exact ha.inv.dead id oM) (fun b hb=>by rw[hbn]at hb;injection hb with hb;subst hb;simp) (fun _ _ h=>h) (fun _ _ h=>.inl h) (fun b o hb=>qAc (ha.inv.st b o hb) sI) (by rw[hn];exact hro) ok1
 exact⟨g',hab.put (d:=some d) hd ok2⟩
theorem zcD{g:Gh}{a:Act}{w:World}(ha:AbsG C g σ η a w)(hd:Nat.blt d C.N=true)(hro:C.ro<=η.length):
  Abs C ((d,.mp η.length)::σ) (η++[.map none []]) (a.put (some d) (.map (some w.heap.size))) (w.alloc (.map #[] 0)) :=
 ha.allocOb _ _ _ _ hd hro fun g' hn hb _ _ hst=>⟨zW5.2 ⟨w.heap.size, #[],hb,_root_.Go.heap_alloc_new w _,rfl,fun j e p he=>by simp at he,hst,fun _ h=>(by cases h)⟩,by show η.length<g'.n;rw[hn,ha.inv.n];omega,w.heap.size,by rw[<-ha.inv.n];exact hb,rfl⟩
theorem zYP{κ:Type}(enc:κ->Value)(hd:Nat.blt d C.N=true)(hro:Nat.ble C.ro η.length=true)(h:alex C false ops rest K ((d,.mp η.length)::σ) (η++[.map none (kvs enc [])])):
  zBJ C false ops ⟨some d,.makeMap t none,ty,pos,after,gd⟩ rest K σ η :=
 zIo (fun _ _ _ ha=>⟨_,_,rfl,zcD ha hd (qAM hro)⟩) h
theorem zWD{k e:Nat}(_ht:zGR C.P t=some (k,e))(_hk:C.P.underlying k=some .string)(hd:Nat.blt d C.N=true)(hro:Nat.ble C.ro η.length=true)(h:alex C false ops rest K ((d,.mp η.length)::σ) (η++[.map none (kvs (fun l:List UInt8=>.string ⟨l.toArray⟩) [])])):
  zBJ C false ops ⟨some d,.makeMap t none,ty,pos,after,gd⟩ rest K σ η:=zYP _ hd hro h
section
variable {κ:Type}[DecidableEq κ]{enc:κ->Value}
omit [DecidableEq κ] in
theorem AbsG.setMap{g:Gh}{a:Act}{w:World}(ha:AbsG C g σ η a w){id b:Nat}{kb:Option Nat}{L L':List (κ×D)}{es':Array MapEntry}(ho:η[id]?=some (.map kb (kvs enc L)))(hb:g.blk id=some b)(hro:C.ro<=id)
  (hsz:es'.size=L'.length) (hes:∀(j:Nat) e p,es'[j]?=some e->L'[j]?=some p->e.born=j/\e.key=enc p.1/\RepD g.St w e.val p.2) :
  AbsG C g σ (η.set id (.map kb (kvs enc L'))) a { w with heap:=w.heap.setIfInBounds b (.map es' L'.length) }:=by
 obtain⟨b',es,h1,h2,h3,h4,h5,h6⟩:=zW5.1 (ha.inv.ob id _ ho)
 rw[hb]at h1;injection h1 with h1;subst h1
 have hbl:=ha.inv.lt id b hb
 refine ha.setObj (qAA.1 ho).1 hb hro h5 rfl rfl rfl sI (fun k hk=>by simp[Array.getElem?_setIfInBounds_ne (fun e=>hk e.symm)]) fun kp=>zW5.2 ⟨b,es',hb,by rw[zKn];simp[hbl],by rw[zKn];exact hsz,fun j e p he hp=>?_,h5,h6⟩
 rw[zJK]at hp
 cases hq:L'[j]? with
 |none=>simp[hq]at hp
 |some p0 =>
  simp[hq]at hp;subst hp
  obtain⟨q1,q2,q3⟩:=hes j e p0 he hq
  exact⟨q1,q2,q3.keep kp⟩
theorem zN5{P:Program}{w:World}{v:Value}(h:Instr.sameBits 10000 v v=true): (Instr.keyThatStays v v).run P w=.ok v w:=by
 simp[Instr.keyThatStays,h]
theorem zIF{id k e:Nat}{kb:Option Nat}{L:List (κ×D)}{a:κ}{dv:D}(hx:oval σ x=.mp id)(ho:η[id]?=some (.map kb (kvs enc L)))(hy:oval σ y=.d (.val (enc a)))(hz:Co η (oval σ z) dv)(ht:zGR C.P t=some (k,e))(hk:KeyOk C.P k enc)(hro:Nat.ble C.ro id=true)
  (h:alex C false ops rest K σ (η.set id (.map kb (kvs enc (putK L a dv))))):zBJ C false ops ⟨none,.mapUpdate t x y z,ty,pos,after,gd⟩ rest K σ η:=by
 refine zRP (fun g ac w ha=>?_) h
 have h1:=ha.eval x;rw[hx]at h1
 have h2:=ha.eval y;rw[hy]at h2
 have hzr:=hz.rep ha.inv (ha.eval z)
 obtain⟨_,b,hb,hv⟩:=h1
 obtain⟨b',es,m1,m2,m3,m4,m5,m6⟩:=zYk (ha.inv.ob id _ ho)
 rw[hb]at m1;injection m1 with m1;subst m1
 obtain⟨kind,k1,k2,k3,k4⟩:=hk.ex
 have hck:=MapKept.run_checkKey (w:=w) k1 (k2 a) false 9999
 have m3':es.size=L.length:=by simpa using m3
 rcases zGe k3 a es.toList L 0 m3 m4 with⟨f1,f2⟩|⟨e0,d0,f1,f2,f3⟩
 ·obtain⟨q1,q2,q3⟩:=zJJ f1
  have hset:=ha.setMap (L':=L++[(a,dv)]) (es':=es.push { key:=enc a,val:=ac.eval z,born:=L.length }) ho hb (qAM hro) (by simp[m3']) (fun j e p he hp=>by
   rw[Array.getElem?_push]at he
   split at he
   ·rename_i hj
    injection he with he;subst he
    rw[hj,m3',qAD (qAN _)]at hp
    simp at hp;subst hp
    exact⟨hj.trans m3' |>.symm,rfl,hzr⟩
   ·rename_i hj
    have hjl:j<L.length:=by have:=(qAn.1 he).1;omega
    rw[qAG hjl]at hp
    have he':es.toList[j]?=some e:=by simpa using he
    exact⟨(m5 j e p he' hp).1,m4 j e p he' hp,(m5 j e p he' hp).2⟩)
  refine⟨_,?_,g,by rw[q2];exact hset⟩
  rw[qAH]
  simp only[execOp,hv,RepD.val_eq h2,Sem.run_bind,Instr.mapUpdate,run_underlying (zDs ht),MapKept.run_getObj_map m2,hck,MapKept.run_findKey k1 f2,MapKept.run_setObj_map _ m2,Result.andThen,Sem.run_pure]
  rfl
 ·obtain⟨q1,q2⟩:=zFi f2
  have hil:idxK L a<L.length:=(qAA.1 q1).1
  have hkey:e0.key=enc a:=m4 _ _ _ f1 q1
  have f1':es[idxK L a]?=some e0:=by simpa using f1
  have hset:=ha.setMap (L':=L.set (idxK L a) (a,dv)) (es':=es.modify (idxK L a) fun e=>{ e with key:=enc a,val:=ac.eval z }) ho hb (qAM hro) (by simp[m3']) (fun j e p he hp=>by
   rw[Array.getElem?_modify]at he
   rw[qAh]at hp
   split at he
   ·rename_i hj
    subst hj
    rw[if_pos rfl,if_pos hil]at hp
    rw[f1']at he
    simp at he hp;subst he;subst hp
    exact⟨(m5 _ _ _ f1 q1).1,rfl,hzr⟩
   ·rename_i hj
    rw[if_neg hj]at hp
    have he':es.toList[j]?=some e:=by simpa using he
    exact⟨(m5 j e p he' hp).1,m4 j e p he' hp,(m5 j e p he' hp).2⟩)
  refine⟨_,?_,g,by rw[q2];exact hset⟩
  rw[qAv]
  rw[qAS]at f3
  have hst:(Instr.keyThatStays (((es[idxK L a]?).map (·.key)).getD (enc a)) (enc a)).run C.P w=.ok (enc a) w:=by
   rw[f1'];simp only[qBG,qBE,hkey];exact zN5 (k4 a)
  simp only[execOp,hv,RepD.val_eq h2,Sem.run_bind,Instr.mapUpdate,run_underlying (zDs ht),MapKept.run_getObj_map m2,hck,MapKept.run_findKey k1 f3,hst,MapKept.run_setObj_map _ m2,Result.andThen,Sem.run_pure]
end
end
end Go.Sx
namespace Go.Sx
open Go.RowKit
def zWR(l:List Oper)(f:Nat->Bool): Prop:=∀j o,l[j]?=some o->f j=true->∀e∈o.after,Region.binds .any e=true->f e.on=true
def Deps(o:Oper)(f:Nat->Bool): Prop:=∀e∈o.after,Region.binds .any e=true->f e.on=true
theorem zQR{C:Ctx}{l:List Oper}{Q:Exit->Act->World->Prop}{K:Sl->List Ob->Prop}(hQ:∀σ' η' a w,K σ' η'->Abs C σ' η' a w->Q .normal a w)(hB:zF1 l=true)
  (m:Nat) (hm:m<=l.length) (hbar:m=l.length\/zIx l.toArray (l.length-m-1)=true) (I:(Nat->Bool)->Act->World->Prop)
  (hfin:∀f a w,(∀j,j<m->f j=true)->I f a w->∃σ η,zBZ C l.toArray (l.drop m) K σ η/\Abs C σ η a w)
  (hstep:∀f j o a w,j<m->l[j]?=some o->f j=false->zWR l f->Deps o f->I f a w->
   (Region.wanted o (yielded l.toArray a.tmps)=true/\o.wp C.P a w (I (fun i=>i==j||f i)) Q)\/(Region.wanted o (yielded l.toArray a.tmps)=false/\I (fun i=>i==j||f i) (a.put o.dst undef) w)) :
  ∀(fuel:Nat) (listed:Array Bool) (a:Act) (w:World),listed.size=l.length->(listed.toList.filter (! ·)).length<=fuel->
   (∀j o,l[j]?=some o->listed.getD j true=true->∀e∈o.after,Region.binds .any e=true->listed.getD e.on true=true)->
   (∀i,m<=i->i<l.length->listed.getD i true=false)->I (fun i=>listed.getD i true) a w->wpAny C.P .any l.toArray Q fuel listed a w:=by
 have spec:=zF0 hB
 intro fuel
 induction fuel with
 |zero =>
  intro listed a w hsz hc hcl hno hI
  by_cases hall:∀j,j<m->listed.getD j true=true
  ·obtain⟨σ,η,h1,h2⟩:=hfin _ a w hall hI
   exact zPQ hQ hB (l.length-m) m σ η oM h1 0 listed a w hsz hc hcl hall hno h2
  ·exfalso
   apply hall
   intro j hj
   cases hq:listed.getD j true with
   |true=>rfl
   |false =>
    exfalso
    have hxl:j<listed.size:=by omega
    have:false∈listed.toList.filter (! ·):=by
     rw[List.mem_filter]
     refine⟨?_,rfl⟩
     rw[qAQ,qAP hxl]at hq
     simp at hq
     rw[<-hq];exact Array.mem_toList_iff.2 (Array.getElem_mem hxl)
    have:=List.length_pos_of_mem this
    omega
 |succ fuel ih =>
  intro listed a w hsz hc hcl hno hI
  by_cases hall:∀j,j<m->listed.getD j true=true
  ·obtain⟨σ,η,h1,h2⟩:=hfin _ a w hall hI
   exact zPQ hQ hB (l.length-m) m σ η oM h1 (fuel+1) listed a w hsz hc hcl hall hno h2
  ·refine⟨fun hr=>?_,fun j hj=>?_⟩
   ·exfalso
    apply hall
    intro j hj
    exact zOx hB listed hsz hr j oM
   ·obtain⟨hun,oj,hoj,hdep⟩:=mem_ready.1 hj
    have hlj:l[j]?=some oj:=by simpa using hoj
    have hjl:j<l.length:=(qAA.1 hlj).1
    have hall':∀e∈oj.after,Region.binds .any e=true->listed.getD e.on true=true:=by
     intro e he hb
     have hlt:=(spec j oj hlj).2.1 e he hb
     rw[zOe oM];exact hdep e he hb
    have hjm:j<m:=by
     rcases qAF j m with h|h
     ·exact h
     ·exfalso
      apply hall
      intro i hi
      rcases hbar with hb|hb
      ·omega
      ·have hml:m<l.length:=by omega
       have hcl':∀j o,l.toArray[j]?=some o->listed.getD j true=true->∀e∈o.after,Region.binds .any e=true->listed.getD e.on true=true:=fun j o ho=>hcl j o (by simpa using ho)
       simp only[zIx,qAR]at hb
       obtain⟨⟨_,hb1⟩,hb2⟩:=hb
       have hk1:l.toArray.size-1-(l.length-m-1)=m:=by rw[qBN];omega
       rw[hk1]at hb1
       have hlm:l.toArray[m]?=some l[m]:=by simp[hml]
       rcases qAF m j with hmj|hmj
       ·exfalso
        have hk2:l.toArray.size-(l.length-m-1)+(j-m-1)=j:=by rw[qBN];omega
        have:=qAI.1 hb2 (j-m-1) (qBY.2 oM)
        rw[hk1,hk2]at this
        have:=zCf (f:=fun i=>listed.getD i true) hcl' l.toArray.size j oj hoj hall' this
        rw[hno m (qAN _) hml]at this;cases this
       ·have hmj:j=m:=by omega
        subst hmj
        exact zCf (f:=fun i=>listed.getD i true) hcl' l.toArray.size j oj hoj hall' (qAI.1 hb1 i (qBY.2 hi))
    have cnt:((listed.setIfInBounds j true).toList.filter (! ·)).length<=fuel:=by
     have hjs:j<listed.size:=by omega
     have h0:listed[j]=false:=by
      rw[qAQ,qAP hjs]at hun;simpa using hun
     have e1:listed.toList=listed.toList.take j++false::listed.toList.drop (j+1):=by
      conv=>lhs;rw[<-qAi j listed.toList]
      congr 1
      rw[qAW (by simpa using hjs)]
      congr 1
     have e2:(listed.setIfInBounds j true).toList=listed.toList.take j++true::listed.toList.drop (j+1):=by
      rw[Array.toList_setIfInBounds,List.set_eq_take_append_cons_drop,if_pos (by simpa using hjs)]
     rw[e1]at hc
     rw[e2]
     simp only[List.filter_append,qAH,qBh,Bool.not_false,if_true,qAK,Bool.not_true,qBb,if_false]at hc ⊢
     omega
    have pre':∀i o,l[i]?=some o->(listed.setIfInBounds j true).getD i true=true->∀e∈o.after,Region.binds .any e=true->(listed.setIfInBounds j true).getD e.on true=true:=by
     intro i o hi hli e he hb
     rw[setB listed j _ oM]at hli ⊢
     by_cases hij:i=j
     ·subst hij
      rw[hlj]at hi;injection hi with hi;subst hi
      rw[hall' e he hb];simp
     ·have hbe:(i==j)=false:=by simpa using hij
      rw[hbe,qBJ]at hli
      rw[hcl i o hi hli e he hb];simp
    have no':∀i,m<=i->i<l.length->(listed.setIfInBounds j true).getD i true=false:=fun i h1 h2=>by
     rw[setB listed j i oM,hno i h1 h2]
     have:(i==j)=false:=by simp;omega
     rw[this];rfl
    have next:∀a' w',I (fun i=>i==j||listed.getD i true) a' w'->wpAny C.P .any l.toArray Q fuel (listed.setIfInBounds j true) a' w':=fun a' w' hI'=>by
     refine ih _ a' w' (by simpa using hsz) cnt pre' no' ?_
     have:(fun i=>(listed.setIfInBounds j true).getD i true)=fun i=>i==j||listed.getD i true:=by funext i;exact setB listed j i oM
     rw[this];exact hI'
    unfold wpOp
    simp only[hoj]
    rcases hstep _ j oj a w hjm hlj hun hcl hall' hI with⟨h1,h2⟩|⟨h1,h2⟩
    ·rw[if_pos h1]
     exact .inl (Oper.wp_mono next h2)
    ·rw[if_neg (by rw[h1];simp)]
     exact next _ _ h2
theorem zJy{l:List Oper}(hB:zF1 l=true){σ:Sl}{ss:List SV}{f:Nat->Bool}{j:Nat}{oj:Oper}(hlj:l[j]?=some oj)(hun:f j=false)(hcl:zWR l f)(hd:Deps oj f): ∀t,t∈oj.looksAt l.toArray->get (pst σ 0 l ss f) t=get (pst σ 0 l ss (fun i=>decide (i<j))) t:=by
 have spec:=zF0 hB
 intro t ht
 refine zCz t l ss σ σ 0 _ _ rfl (fun i o hi hne=>?_)
 rw[qAS]at hne
 rcases qBS i j with h|h|h
 ·have hni:f i=false:=by
   cases hc':f i with
   |false=>rfl
   |true=>exfalso;simp[hc',h]at hne
  rcases(spec j oj hlj).2.2 i o h hi with⟨e,he,hb,hon⟩|hap
  ·have:=hd e he hb
   rw[hon,hni]at this;cases this
  ·intro hdt;exact(Oper.apart_spec hap).1 t hdt ht
 ·exfalso;subst h;simp[hun]at hne
 ·have hli:f i=true:=by
   cases hc':f i with
   |true=>rfl
   |false =>
    exfalso
    have hdd:decide (i<j)=false:=by simp;omega
    simp only[hc',hdd]at hne
    exact hne rfl
  rcases(spec i o hi).2.2 j oj h hlj with⟨e,he,hb,hon⟩|hap
  ·have:=hcl i o hi hli e he hb
   rw[hon,hun]at this;cases this
  ·intro hdt;exact(Oper.apart_spec hap).2.2 t hdt ht
theorem zJz{l:List Oper}(hB:zF1 l=true){σ:Sl}{ss:List SV}{f:Nat->Bool}{j:Nat}{oj:Oper}{sj:SV}(hlj:l[j]?=some oj)(hs:ss[j]?=some sj)(hun:f j=false)(hcl:zWR l f): ∀t,get (put (pst σ 0 l ss f) oj.dst sj) t=get (pst σ 0 l ss (fun i=>i==j||f i)) t:=by
 have spec:=zF0 hB
 intro t
 have h1:=zQs t j l ss σ 0 f oj sj hlj hs (by rw[qAS];exact hun) (fun i o hi hlt' hfi=>by
  rw[qAS]at hfi
  rcases(spec i o hi).2.2 j oj oM hlj with⟨e,he,hb,hon⟩|hap
  ·have:=hcl i o hi hfi e he hb
   rw[hon,hun]at this;cases this
  ·cases hdd:oj.dst with
   |none=>exact .inr rfl
   |some d=>exact .inl ((Oper.apart_spec hap).2.1 d hdd))
 rw[h1,qAS]
def Fresh(C:Ctx)(g:Gh)(w:World)(v:Value)(cs:List SV)(t:TypeId): Prop :=
 ∃b us,v=.pointer (some ⟨b,0,none⟩)/\w.heap[b]?=some (.cells us t (0,0))/\us.size=cs.length/\(∀u∈us,u.oneCell'=true)/\(∀(j:Nat) (u:Value) (s:SV),us[j]?=some u->cs[j]?=some s->RepS g w u s)/\
  (∀o,¬g.St b o)/\(∀id,g.blk id≠some b)/\C.w0.heap.size<=b/\b<w.heap.size
theorem Fresh.grow{C:Ctx}{g g':Gh}{w w':World}{v:Value}{cs:List SV}{t:TypeId}(hst:∀b o,g.St b o->b<w.heap.size)(h:Fresh C g w v cs t)(k:Grow g w g' w'): Fresh C g' w' v cs t:=by
 obtain⟨b,us,h1,h2,q1,q2,q3,h3,h4,h5,h6⟩:=h
 refine⟨b,us,h1,(k.heap b h6).trans h2,q1,q2,fun j u s hu hs=>(q3 j u s hu hs).grow hst k,fun o ho=>?_,fun id=>by rw[k.blk];exact h4 id,h5,qAc h6 k.size⟩
 rcases k.new b o ho with h7|h7
 ·exact h3 o h7
 ·omega
theorem AbsG.adopt{C:Ctx}{g:Gh}{σ:Sl}{η:List Ob}{a:Act}{w:World}(h:AbsG C g σ η a w){d:Nat}{cs:List SV}{t:TypeId}(hf:Fresh C g w (a.tmps.getD d undef) cs t):
  ∃g',AbsG C g' ((d,.ptr η.length 0)::σ) (η++[.bx none (some t) cs]) a w/\g'.St=g.St/\(∀id b,g'.blk id=some b->g.blk id=some b\/a.tmps.getD d undef=.pointer (some ⟨b,0,none⟩))/\∀{v:Value} {s:SV},RepS g w v s->RepS g' w v s:=by
 obtain⟨b,us,f1,f2,z1,z2,z3,f3,f4,f5,f6⟩:=hf
 have hn:=h.inv.n
 let g':Gh:={ g with blk:=upd g.blk g.n (some b),n:=g.n+1 }
 have hold:∀id,id<g.n->g'.blk id=g.blk id/\g'.cap id=g.cap id/\g'.sz id=g.sz id:=fun id hid=>⟨by simp[g',upd,Nat.ne_of_lt hid],rfl,rfl⟩
 have hbn:g'.blk g.n=some b:=by simp[g',upd]
 have hb':∀id c,g'.blk id=some c->(id<g.n/\g.blk id=some c)\/(id=g.n/\c=b):=by
  intro id c hc
  rcases qBS id g.n with hi|hi|hi
  ·rw[(hold id hi).1]at hc;exact .inl ⟨hi,hc⟩
  ·subst hi;rw[hbn]at hc;injection hc with hc;exact .inr ⟨rfl,hc.symm⟩
  ·have hne:id≠g.n:=by omega
   simp only[g',upd,if_neg hne]at hc
   rw[h.inv.dead id oM]at hc;cases hc
 have kp:=Keep.refl g.St w
 have rx:∀{v:Value} {s:SV},RepS g w v s->RepS g' w v s:=fun r=>r.ext (g':=g') kp hold (qBu _)
 refine⟨g',⟨h.defers,h.size,⟨by rw[qAH];show g.n+1=_;rw[hn];rfl,fun id c hc=>?_,fun id hid=>?_,fun i j c hi hj=>?_,fun id o ho=>?_,h.inv.st,h.inv.gl⟩,h.os,h.tape,h.output,h.wsize,h.heap,h.keep,h.new,fun id c hc hr=>?_,fun u=>?_⟩,rfl,fun id c hc=>?_,rx⟩
 ·rcases hb' id c hc with⟨_,q⟩|⟨_,rfl⟩
  ·exact h.inv.lt id c q
  ·exact f6
 ·have hid:g.n+1<=id:=hid
  have hne:id≠g.n:=by omega
  simp only[g',upd,if_neg hne];exact h.inv.dead id oM
 ·rcases hb' i c hi with⟨q1,q2⟩|⟨q1,q2⟩ <;> rcases hb' j c hj with⟨q3,q4⟩|⟨q3,q4⟩
  ·exact h.inv.inj i j c q2 q4
  ·exact absurd (q4▸q2) (f4 i)
  ·exact absurd (q2▸q4) (f4 j)
  ·omega
 ·rw[List.getElem?_append]at ho
  split at ho
  ·rename_i hc
   exact(h.inv.ob id o ho).ext (g':=g') kp hold (qBu _) oM (fun _ _=>⟨rfl,fun _=>Iff.rfl⟩)
  ·rename_i hc
   have hid:id=g.n:=by
    have:=(qAA.1 ho).1
    simp at this;omega
   subst hid
   have:g.n-η.length=0:=by omega
   rw[this]at ho
   simp at ho;subst ho
   exact⟨b,t,us,hbn,f2,z1,z2,fun j u s hu hs=>rx (z3 j u s hu hs),f3,fun _ h=>(by cases h),fun _ h=>(qBR h).symm⟩
 ·rcases hb' id c hc with⟨_,q⟩|⟨_,rfl⟩
  ·exact h.own id c q hr
  ·exact .inl f5
 ·rw[zBl]
  split
  ·rename_i e;subst e
   refine⟨by show η.length<g.n+1;omega,b,by rw[<-hn];exact hbn,f1⟩
  ·exact rx (h.rep u)
 ·rcases hb' id c hc with⟨_,q⟩|⟨_,rfl⟩
  ·exact .inl q
  ·exact .inr f1
theorem AbsG.other{C:Ctx}{g:Gh}{σ:Sl}{η:List Ob}{a:Act}{w:World}(h:AbsG C g σ η a w){b:Nat}(us':Array Value)(hst:∀o,¬g.St b o)(hb:∀id,g.blk id≠some b)(h0:C.w0.heap.size<=b):
  AbsG C g σ η a (w.setRow b us')/\∀{v:Value} {s:SV},RepS g w v s->RepS g (w.setRow b us') v s:=by
 have hoth:∀k,k≠b->(w.setRow b us').heap[k]?=w.heap[k]?:=fun k hk=>setRow_other w b k us' hk
 have kp:Keep g.St w g.St (w.setRow b us'):=⟨fun _ _ h=>h,fun c o u hc hu=>(World.cell?_of_block (a:=⟨c,o,none⟩) (hoth c (fun e=>hst o (e▸hc)))).trans hu,fun c hc=>hoth c (fun e=>hst 0 (e▸hc 0))⟩
 have rk:∀{v:Value} {s:SV},RepS g w v s->RepS g (w.setRow b us') v s:=fun r=>r.ext kp (fun _ _=>⟨rfl,rfl,rfl⟩) (qAN _)
 refine⟨⟨h.defers,h.size,⟨h.inv.n,fun i c hc=>by rw[setRow_size];exact h.inv.lt i c hc,h.inv.dead,h.inv.inj,fun i o ho=>?_,fun c o hc=>by rw[setRow_size];exact h.inv.st c o hc,h.inv.gl.keep kp⟩,h.os,h.tape,h.output,by rw[setRow_size];exact h.wsize,
  fun k hk hx=>?_,h.keep.trans kp,h.new,h.own,fun t=>rk (h.rep t)⟩,rk⟩
 ·exact(h.inv.ob i o ho).ext kp (fun _ _=>⟨rfl,rfl,rfl⟩) (qAN _) (by rw[h.inv.n];exact(qAA.1 ho).1) (fun c hcb=>⟨hoth c (fun e=>hb i (e▸hcb)),fun _=>Iff.rfl⟩)
 ·rw[hoth k (fun e=>by omega)];exact h.heap k hk hx
structure Pn where
 d:Nat
 zs:List Value
 t:TypeId
 cs:List SV
def adσ: List Pn->Nat->Sl->Sl
 |[],_,σ=>σ
 |p::r,n,σ=>adσ r (n+1) ((p.d,.ptr n 0)::σ)
def adη(pn:List Pn): List Ob:=pn.map fun p=>.bx none (some p.t) p.cs
theorem AbsG.adoptAll{C:Ctx}{a:Act}{w:World}: ∀(pn:List Pn) (g:Gh) (σ:Sl) (η:List Ob),AbsG C g σ η a w->(∀p∈pn,Fresh C g w (a.tmps.getD p.d undef) p.cs p.t)->
  (pn.Pairwise fun p q=>a.tmps.getD p.d undef≠a.tmps.getD q.d undef)->Abs C (adσ pn η.length σ) (η++adη pn) a w
 |[],g,σ,η,h,_,_=>⟨g,by simpa[adσ,adη]using h⟩
 |p::r,g,σ,η,h,hf,hp=>by
  obtain⟨hp1,hp2⟩:=List.pairwise_cons.1 hp
  obtain⟨g',h1,h2,h3,h4⟩:=h.adopt (hf p sI)
  have:=AbsG.adoptAll r g' _ _ h1 (fun q hq=>?_) hp2
  ·rw[qAH]at this
   simpa[adσ,adη,List.append_assoc]using this
  ·obtain⟨b,us,f1,f2,z1,z2,z3,f3,f4,f5,f6⟩:=hf q (by simp[hq])
   refine⟨b,us,f1,f2,z1,z2,fun j u s hu hs=>h4 (z3 j u s hu hs),by rw[h2];exact f3,fun id hid=>?_,f5,f6⟩
   rcases h3 id b hid with h5|h5
   ·exact f4 id h5
   ·exact hp1 q hq (by rw[h5,f1])
def once(l:List Oper)(j d:Nat): Bool:=(List.range l.length).all fun i=>Nat.beq i j||match l[i]? with|some o=>!(match o.dst with|some e=>Nat.beq e d|none=>false)|none=>true
theorem zUI{l:List Oper}{j d:Nat}(h:once l j d=true){i:Nat}{o:Oper}(hi:l[i]?=some o)(hne:i≠j): o.dst≠some d:=by
 have:=qAI.1 h i (qBY.2 (qAA.1 hi).1)
 intro hd
 simp[hi,hd]at this
 exact hne this
inductive SegK where
 |y (s:SV)
 |mk (p:Pn) (st:Option Nat)
 |st (of:Nat) (p:Pn)
def SegK.sv: SegK->SV
 | .y s=>s
 | .mk _ _=>.top
 | .st _ _=>.top
def zPg(C:Ctx)(l:List Oper)(η:List Ob)(all:List SegK): Nat->List Oper->List SegK->Sl->Prop
 |j,o::r,.y s::ks,σ=>(Wants l.toArray σ o.guard true/\Ylds C.P η σ o s)/\zFA C.N o.dst/\zPg C l η all (j+1) r ks (put σ o.dst s)
 |j,o::r,.mk p st::ks,σ=>(o.op=.alloc p.t/\o.guard=none/\o.dst=some p.d/\zBv C.P p.t=some p.zs/\once l j p.d=true/\(match st with|none=>p.cs=p.zs.map cst|some i=>all[i]?=some (.st j p)))/\zFA C.N o.dst/\zPg C l η all (j+1) r ks (put σ o.dst .top)
 |j,o::r,.st i p::ks,σ=>((∃t x y b0 n,o.op=.store t x y/\x=.tmp p.d/\zHA (oval σ y)=some p.cs/\zBh C.P t=some (b0,n)/\Nat.beq p.cs.length n=true)/\o.guard=none/\o.dst=none/\all[i]?=some (.mk p (some j))/\Nat.blt i j=true/\Nat.beq p.zs.length p.cs.length=true)/\zPg C l η all (j+1) r ks (put σ o.dst .top)
 |_,_,[],_=>True
 |_,[],_::_,_=>False
def pnOf: List SegK->List Pn
 |[]=>[]
 | .mk p _::r=>p::pnOf r
 |_::r=>pnOf r
def segσ: List Oper->List SegK->Sl->Sl
 |o::r,k::ks,σ=>segσ r ks (put σ o.dst k.sv)
 |_,_,σ=>σ
theorem zIS{C:Ctx}{l:List Oper}{η:List Ob}{all:List SegK}: ∀(r:List Oper) (ks:List SegK) (j:Nat) (σ:Sl),zPg C l η all j r ks σ->ks.length<=r.length
 |_,[],_,_,_=>qAO _
 |o::r,.y s::ks,j,σ,h=>by have:=zIS r ks _ _ h.2.2;simpa using this
 |o::r,.mk p _::ks,j,σ,h=>by have:=zIS r ks _ _ h.2.2;simpa using this
 |o::r,.st _ p::ks,j,σ,h=>by have:=zIS r ks _ _ h.2;simpa using this
 |[],_::_,_,_,h=>h.elim
theorem zQn{C:Ctx}{l:List Oper}{η:List Ob}{all:List SegK}: ∀(r:List Oper) (ks:List SegK) (j:Nat) (σ:Sl),zPg C l η all j r ks σ->∀(i:Nat) o k,r[i]?=some o->ks[i]?=some k->
  (match k with
  | .y s=>zFA C.N o.dst/\Wants l.toArray (pst σ j r (ks.map SegK.sv) (fun m=>decide (m<j+i))) o.guard true/\Ylds C.P η (pst σ j r (ks.map SegK.sv) (fun m=>decide (m<j+i))) o s
  | .mk p st=>zFA C.N o.dst/\o.op=.alloc p.t/\o.guard=none/\o.dst=some p.d/\zBv C.P p.t=some p.zs/\once l (j+i) p.d=true/\(match st with|none=>p.cs=p.zs.map cst|some m=>all[m]?=some (.st (j+i) p))
  | .st m p=>(∃t x y b0 n,o.op=.store t x y/\x=.tmp p.d/\zHA (oval (pst σ j r (ks.map SegK.sv) (fun m=>decide (m<j+i))) y)=some p.cs/\zBh C.P t=some (b0,n)/\Nat.beq p.cs.length n=true)/\o.guard=none/\o.dst=none/\all[m]?=some (.mk p (some (j+i)))/\Nat.blt m (j+i)=true/\Nat.beq p.zs.length p.cs.length=true)
 |_,[],_,_,_,i,o,k,_,hk=>by simp at hk
 |[],_::_,_,_,h,_,_,_,_,_=>h.elim
 |o::r,k::ks,j,σ,h,0,o',k',ho,hk=>by
  simp at ho hk;subst ho;subst hk
  have e0:∀t,get (pst σ j (o::r) ((k::ks).map SegK.sv) (fun m=>decide (m<j+0))) t=get σ t:=by
   intro t
   have:=zCz t (o::r) ((k::ks).map SegK.sv) σ σ j (fun m=>decide (m<j+0)) (fun _=>false) rfl (fun i o' hi hne=>by simp at hne)
   rw[this,zFB]
  cases k with
  |y s=>exact⟨h.2.1,h.1.1.congr e0,h.1.2.congr fun x _=>zEZ e0 x⟩
  |mk p st=>exact⟨h.2.1,h.1⟩
  |st m p =>
   obtain⟨⟨⟨t,x,y,b0,n,h1,h2,h3,h4⟩,h5⟩,_⟩:=h
   exact⟨⟨t,x,y,b0,n,h1,h2,by rw[zEZ e0 y];exact h3,h4⟩,h5⟩
 |o::r,k::ks,j,σ,h,i+1,o',k',ho,hk=>by
  have hh:zPg C l η all (j+1) r ks (put σ o.dst k.sv):=by
   cases k with
   |y s=>exact h.2.2
   |mk p st=>exact h.2.2
   |st m p=>exact h.2
  have:=zQn r ks (j+1) _ hh i o' k' (by simpa using ho) (by simpa using hk)
  have hj:j+(i+1)=j+1+i:=by omega
  have hd:decide (j<j+1+i)=true:=by simp;omega
  simp only[qA1,pst,hj,hd]
  exact this
theorem zIR: ∀(r:List Oper) (ks:List SegK) (j:Nat) (σ:Sl) (f:Nat->Bool),(∀i,i<ks.length->f (j+i)=true)->pst σ j r (ks.map SegK.sv) f=segσ r ks σ
 |[],ks,_,_,_,_=>by cases ks <;> rfl
 |_::_,[],_,_,_,_=>rfl
 |o::r,k::ks,j,σ,f,h=>by
  have h0:=h 0 sI
  rw[qBI]at h0
  simp only[qA1,pst,h0,segσ]
  exact zIR r ks (j+1) _ f (fun i hi=>by rw[show j+1+i=j+(i+1) by omega];exact h (i+1) pAH)
theorem zIa: ∀{ks:List SegK} {p:Pn},p∈pnOf ks->∃(j:Nat) (st:Option Nat),ks[j]?=some (.mk p st)
 | .y s::ks,p,h=>by obtain⟨j,st,hj⟩:=zIa (ks:=ks) h;exact⟨j+1,st,by simpa using hj⟩
 | .st _ _::ks,p,h=>by obtain⟨j,st,hj⟩:=zIa (ks:=ks) h;exact⟨j+1,st,by simpa using hj⟩
 | .mk q st::ks,p,h=>by
  rcases qAq.1 h with rfl|h
  ·exact⟨0,st,rfl⟩
  ·obtain⟨j,st,hj⟩:=zIa (ks:=ks) h;exact⟨j+1,st,by simpa using hj⟩
 |[],p,h=>by simp[pnOf]at h
theorem zIZ{R:Pn->Pn->Prop}: ∀(ks:List SegK),(∀(i j:Nat) p q s s',ks[i]?=some (.mk p s)->ks[j]?=some (.mk q s')->i≠j->R p q)->(pnOf ks).Pairwise R
 |[],_=>.nil
 | .y s::ks,h=>zIZ ks (fun i j p q s s' hi hj hne=>h (i+1) (j+1) p q s s' pAH pAK oM)
 | .st _ _::ks,h=>zIZ ks (fun i j p q s s' hi hj hne=>h (i+1) (j+1) p q s s' pAH pAK oM)
 | .mk p st::ks,h=>List.pairwise_cons.2 ⟨fun q hq=>by obtain⟨j,s',hj⟩:=zIa hq;exact h 0 (j+1) p q st s' rfl pAK oM,zIZ ks (fun i j p q s s' hi hj hne=>h (i+1) (j+1) p q s s' pAH pAK oM)⟩
theorem zI6{P:Program}{t:TypeId}{zs:List Value}(h:zBv P t=some zs): (∀v∈zs,v.oneCell'=true)/\∃z,z.cells.toList=zs/\(∀w,(zeroValue t).run P w=.ok z w):=by
 unfold zBv at h
 split at h
 ·rename_i i hi
  split at h
  ·rename_i z hz
   split at h
   ·rename_i hall
    injection h with h;subst h
    exact⟨fun v hv=>qBX.1 hall v (by simpa using hv),z,rfl,fun w=>by simp[zeroValue,typeInfo,hi,hz]⟩
   ·cases h
  ·cases h
 ·cases h
def holds(f:Nat->Bool)(p:Pn)(st:Option Nat): List SV:=match st with
 |none=>p.cs
 |some i=>if f i then p.cs else p.zs.map cst
theorem zBe{C:Ctx}{Q:Exit->Sl->List Ob->Prop}{σ:Sl}{η:List Ob}{id:Nat}{l:List Oper}(ks:List SegK)(hm:C.P.follows .mixedOrders=true)(hB:zF1 l=true)
  (hbar:ks.length=l.length\/zIx l.toArray (l.length-ks.length-1)=true) (hs:zPg C l η ks 0 l ks σ)
  (h:alex C true l.toArray (l.drop ks.length) (Q .normal) (adσ (pnOf ks) η.length (segσ l ks σ)) (η++adη (pnOf ks))):awp C (.region id l.toArray true) Q σ η:=by
 intro R hR a w ⟨g,hg⟩
 have hd:Abs C σ η a { w with drawn:=w.drawn+1 }:=⟨g,hg.grow ⟨rfl,rfl,rfl,rfl,rfl,rfl,rfl,qAN _,fun _ _=>rfl,fun _ _ h=>h,fun _ _ h=>.inl h,hg.inv.st⟩⟩
 have hkl:=zIS l ks 0 σ hs
 have hat:=zQn l ks 0 σ hs
 have spec:=zF0 hB
 let I:(Nat->Bool)->Act->World->Prop:=fun f a w=>∃g,AbsG C g (pst σ 0 l (ks.map SegK.sv) f) η a w/\(∀(j:Nat) p st,ks[j]?=some (.mk p st)->f j=true->Fresh C g w (a.tmps.getD p.d undef) (holds f p st) p.t)/\
  (∀(i j:Nat) p q s s',ks[i]?=some (.mk p s)->ks[j]?=some (.mk q s')->i≠j->f i=true->f j=true->a.tmps.getD p.d undef≠a.tmps.getD q.d undef)
 have hlk:∀{j:Nat} {k:SegK},ks[j]?=some k->∃o,l[j]?=some o:=fun hk=>⟨_,qAB (qAc (qAA.1 hk).1 hkl)⟩
 refine wp_region_any hm (zQR (C:=C) (K:=Q .normal) (fun σ' η' a w hk hab=>hR _ _ _ _ _ hk hab) hB ks.length hkl hbar I ?_ ?_ _ _ a _ sI ?_ ?_ (fun i _ hi=>?_) ?_)
 ·intro f a w hf ⟨g,h1,h2,h3⟩
  refine⟨_,_,h,?_⟩
  rw[zIR l ks 0 σ f (fun i hi=>by rw[qAS];exact hf i hi)]at h1
  refine h1.adoptAll _ _ _ _ (fun p hp=>?_) (zIZ ks fun i j p q s s' hi hj hne=>h3 i j p q s s' hi hj hne (hf i (qAA.1 hi).1) (hf j (qAA.1 hj).1))
  obtain⟨j,st,hj⟩:=zIa hp
  have hjl:=(qAA.1 hj).1
  have hfr:=h2 j p st hj (hf j hjl)
  obtain⟨o,ho⟩:=hlk hj
  have hcs:holds f p st=p.cs:=by
   cases st with
   |none=>rfl
   |some i =>
    have:ks[i]?=some (.st (0+j) p):=(hat j o _ ho hj).2.2.2.2.2.2
    have hil:i<ks.length:=(qAA.1 this).1
    simp only[holds,hf i hil,if_true]
  rw[hcs]at hfr;exact hfr
 ·intro f j o a w hjm hlj hun hcl hdep ⟨g,h1,h2,h3⟩
  obtain⟨k,hk⟩:∃k,ks[j]?=some k:=⟨_,qAB hjm⟩
  have hkk:=hat j o k hlj hk
  rw[qAS]at hkk
  have same:=zJy (σ:=σ) (ss:=ks.map SegK.sv) hB hlj hun hcl hdep
  have hsk:(ks.map SegK.sv)[j]?=some k.sv:=by rw[qAJ,hk];rfl
  have next:=zJz (σ:=σ) hB hlj hsk hun hcl
  have stay:∀(i:Nat) p st v,ks[i]?=some (.mk p st)->i≠j->(a.put o.dst v).tmps.getD p.d undef=a.tmps.getD p.d undef:=by
   intro i p st v hi hne
   obtain⟨o',hli⟩:=hlk hi
   have hon:=(hat i _ _ hli hi).2.2.2.2.2.1
   rw[qAS]at hon
   have hne2:=zUI hon hlj (fun e=>hne e.symm)
   cases hod:o.dst with
   |none=>rfl
   |some e =>
    have:e≠p.d:=fun h=>hne2 (by rw[hod,h])
    simp[Act.put,Array.getD_eq_getD_getElem?,Array.getElem?_setIfInBounds_ne this]
  have hmk:∀i,(i==j||f i)=true->i≠j->f i=true:=fun i h hne=>by
   have:(i==j)=false:=by simpa using hne
   simpa[this]using h
  have hsame:(∀m p,k≠.st m p)->∀(i:Nat) p st,ks[i]?=some (.mk p st)->holds (fun i=>i==j||f i) p st=holds f p st:=fun hns i p st hi=>by
   cases st with
   |none=>rfl
   |some m =>
    obtain⟨o',ho'⟩:=hlk hi
    have:ks[m]?=some (.st (0+i) p):=(hat i o' _ ho' hi).2.2.2.2.2.2
    have hmj:m≠j:=fun e=>by subst e;rw[hk]at this;exact hns _ _ (qBR this)
    have:(m==j)=false:=by simpa using hmj
    simp only[holds,this,qBJ]
  cases k with
  |y s =>
   left
   obtain⟨hdst,hw,hy⟩:=hkk
   refine⟨hw.wanted (g:=g) (w:=w) fun t q b hgd ht=>by rw[<-same t (zGy hgd ht)];exact h1.rep t,?_⟩
   have hy':Ylds C.P η (pst σ 0 l (ks.map SegK.sv) f) o s:=hy.congr fun x hx=>by
    cases x with
    |tmp t=>exact same t (zB2 hx)
    |_=>rfl
   have fin:∀v g' w',Grow g w g' w'->RepS g' w' v s->I (fun i=>i==j||f i) (a.put o.dst v) w':=fun v g' w' hgr hr=>by
    have hab:=(h1.grow hgr).put hdst hr
    refine⟨g',hab.get_eq fun t=>.inl (next t).symm,fun i p st hi hfi=>?_,fun i i2 p q s1 s2 hi hi2 hne hf1 hf2=>?_⟩
    ·have hne:i≠j:=fun e=>by subst e;rw[hk]at hi;cases hi
     rw[stay i p st v hi hne,hsame (fun _ _ h=>by cases h) i p st hi]
     exact(h2 i p st hi (hmk i hfi hne)).grow h1.inv.st hgr
    ·have hne1:i≠j:=fun e=>by subst e;rw[hk]at hi;cases hi
     have hne2:i2≠j:=fun e=>by subst e;rw[hk]at hi2;cases hi2
     rw[stay i p s1 v hi hne1,stay i2 q s2 v hi2 hne2]
     exact h3 i i2 p q s1 s2 hi hi2 hne (hmk i hf1 hne1) (hmk i2 hf2 hne2)
   unfold Oper.wp
   rcases hy' g w a h1.inv (fun x _=>h1.eval x)with⟨v,g',w',hr,hg,hs'⟩|⟨fn,args,hr,hc⟩
   ·rw[hr];exact fin v g' w' hg hs'
   ·rw[hr,Oper.upon_enter]
    refine hc.mono fun e w' ⟨v,g',he,hg,hs'⟩=>?_
    subst he
    exact fin v g' w' hg hs'
  |mk p st =>
   left
   obtain⟨hdst,q1,q2,q3,q4,q5,q6⟩:=hkk
   refine⟨by unfold Region.wanted;rw[q2],?_⟩
   obtain⟨z1,z,z2,z3⟩:=zI6 q4
   have hrun:(execOp a.eval o).run C.P w=.ok (.value (.pointer (some ⟨w.heap.size,0,none⟩))) (w.alloc (.cells z.cells p.t)):=by
    simp[execOp,q1,Instr.alloc,z3,newVar,newRow]
   have hgr:Grow g w g (w.alloc (.cells z.cells p.t)):=⟨rfl,rfl,rfl,rfl,rfl,rfl,rfl,by simp,fun k hk=>Below.heap_alloc w _ k hk,fun _ _ h=>h,fun _ _ h=>.inl h,fun b o hb=>qAc (h1.inv.st b o hb) sI⟩
   unfold Oper.wp
   rw[hrun]
   have hab:=(h1.grow hgr).put (d:=o.dst) (v:=.pointer (some ⟨w.heap.size,0,none⟩)) (s:=.top) hdst trivial
   have hnew:(a.put o.dst (.pointer (some ⟨w.heap.size,0,none⟩))).tmps.getD p.d undef=.pointer (some ⟨w.heap.size,0,none⟩):=by
    rw[q3]
    have hlt:p.d<a.tmps.size:=by rw[q3]at hdst;rw[h1.size];simpa[zFA,Nat.blt_eq]using hdst
    simp[Act.put,hlt]
   have hold:∀(i:Nat) q s,ks[i]?=some (.mk q s)->f i=true->a.tmps.getD q.d undef≠.pointer (some ⟨w.heap.size,0,none⟩):=fun i q s hi hfi he=>by
    obtain⟨b,us,f1,_,_,_,_,_,_,_,f6⟩:=h2 i q s hi hfi
    rw[he]at f1
    injection f1 with f1;injection f1 with f1;injection f1 with f1
    omega
   have hz:holds (fun i=>i==j||f i) p st=p.zs.map cst:=by
    cases st with
    |none=>exact q6
    |some m =>
     simp only at q6
     obtain⟨o',ho'⟩:=hlk q6
     obtain⟨⟨tt,x,y,b0,n,r1,r2,_⟩,_,_,_,r3,_⟩:=hat m o' _ ho' q6
     rw[qAS]at r3
     have hjm:j<m:=by simpa using r3
     have hfm:f m=false:=by
      cases hfm:f m with
      |false=>rfl
      |true =>
       rcases(spec m o' ho').2.2 j o hjm hlj with⟨e,he,hb,hon⟩|hap
       ·have:=hcl m o' ho' hfm e he hb
        rw[hon,hun]at this;cases this
       ·exact absurd (zB2 (ops:=l.toArray) (o:=o') (t:=p.d) (by rw[r1,r2];simp[Op.operands])) ((Oper.apart_spec hap).1 p.d q3)
     have:(m==j)=false:=by simp;omega
     simp only[holds,this,hfm,Bool.or_false,qBb,if_false]
   refine⟨g,hab.get_eq fun t=>.inl (next t).symm,fun i q s hi hfi=>?_,fun i i2 q q' s s' hi hi2 hne hf1 hf2=>?_⟩
   ·by_cases hij:i=j
    ·subst hij
     rw[hk]at hi;injection hi with hi;injection hi with hi hi';subst hi;subst hi'
     rw[hnew,hz]
     refine⟨w.heap.size,z.cells,rfl,_root_.Go.heap_alloc_new w _,by rw[<-z2];simp,fun u hu=>z1 u (by rw[<-z2];simpa using hu),fun jj u s hu hs=>?_,fun o ho=>absurd (h1.inv.st _ o ho) oM,fun id hid=>absurd (h1.inv.lt id _ hid) oM,h1.wsize,by simp⟩
     rw[<-z2,qAJ]at hs
     rw[<-qAz]at hu
     rw[hu]at hs
     simp at hs;subst hs;exact RepS.cst _ _ u
    ·rw[stay i q s _ hi hij,hsame (fun _ _ h=>by cases h) i q s hi]
     exact(h2 i q s hi (hmk i hfi hij)).grow h1.inv.st hgr
   ·by_cases hij:i=j
    ·have hij2:i2≠j:=fun e=>hne (hij.trans e.symm)
     subst hij
     rw[hk]at hi;injection hi with hi;injection hi with hi hi';subst hi
     rw[hnew,stay i2 q' s' _ hi2 hij2]
     exact fun e=>hold i2 q' s' hi2 (hmk i2 hf2 hij2) e.symm
    ·by_cases hij2:i2=j
     ·subst hij2
      rw[hk]at hi2;injection hi2 with hi2;injection hi2 with hi2 hi2';subst hi2
      rw[hnew,stay i q s _ hi hij]
      exact hold i q s hi (hmk i hf1 hij)
     ·rw[stay i q s _ hi hij,stay i2 q' s' _ hi2 hij2]
      exact h3 i i2 q q' s s' hi hi2 hne (hmk i hf1 hij) (hmk i2 hf2 hij2)
  |st m p =>
   left
   obtain⟨⟨t,x,y,b0,n,r1,r2,r3,r4,r5⟩,q2,q3,q4,q5,q6⟩:=hkk
   refine⟨by unfold Region.wanted;rw[q2],?_⟩
   have hmj:m<j:=by simpa using q5
   obtain⟨om,hom⟩:=hlk q4
   have hq4:=hat m om _ hom q4
   have hfm:f m=true:=by
    rcases(spec j o hlj).2.2 m om hmj hom with⟨e,he,hb,hon⟩|hap
    ·rw[<-hon];exact hdep e he hb
    ·exact absurd (zB2 (ops:=l.toArray) (o:=o) (t:=p.d) (by rw[r1,r2];simp[Op.operands])) ((Oper.apart_spec hap).1 p.d hq4.2.2.2.1)
   have hfr:=h2 m p _ q4 hfm
   have hh:holds f p (some j)=p.zs.map cst:=by simp only[holds,hun,qBb,if_false]
   rw[hh]at hfr
   obtain⟨b,us,f1,f2,z1,z2,z3,f3,f4,f5,f6⟩:=hfr
   have hy1:oval (pst σ 0 l (ks.map SegK.sv) f) y=oval (pst σ 0 l (ks.map SegK.sv) (fun i=>decide (i<j))) y:=by
    cases y with
    |tmp u=>exact same u (zB2 (by rw[r1];simp[Op.operands]))
    |_=>rfl
   have hry:=h1.eval y
   rw[hy1]at hry
   obtain⟨c1,c2,c3⟩:=hry.cells r3
   have hpl:=qAX q6
   have hn:=qAX r5
   have hus:us.size=p.cs.length:=by rw[z1,qAE];exact hpl
   have hstore:=run_storeCells_at C.P b 0 p.t (a.eval y).cells.toList 0 us w f2 (by rw[qAV];omega) (fun v hm=>c2 v (by simpa using hm))
   simp only[qBI,qAS,List.take_zero,qA9]at hstore
   rw[qAa (by rw[qAV,qAV];omega),qA0]at hstore
   obtain⟨ho1,ho2⟩:=h1.other (a.eval y).cells f3 f4 f5
   have hrun:(execOp a.eval o).run C.P w=.ok .skip (w.setRow b (a.eval y).cells):=by
    have hax:a.eval x=.pointer (some ⟨b,0,none⟩):=by rw[r2];exact f1
    simp only[execOp,r1,hax,Instr.storeAt,Instr.sureAddr,storeVar,Sem.run_bind,Sem.run_pure,Result.andThen_ok,(zCb r4 w).2,c1,hn,ne_eq,not_true,if_false,hstore]
   unfold Oper.wp
   rw[hrun]
   have hput:a.put o.dst undef=a:=by rw[q3];rfl
   show I _ (a.put o.dst undef) _
   rw[hput]
   have hnx:∀t,get (pst σ 0 l (ks.map SegK.sv) f) t=get (pst σ 0 l (ks.map SegK.sv) (fun i=>i==j||f i)) t:=fun t=>by have:=next t;rw[q3]at this;exact this
   have hoth:∀k,k≠b->(w.setRow b (a.eval y).cells).heap[k]?=w.heap[k]?:=fun k hk=>setRow_other w b k _ hk
   refine⟨g,ho1.get_eq fun t=>.inl (hnx t).symm,fun i q s hi hfi=>?_,fun i i2 q q' s s' hi hi2 hne hf1 hf2=>?_⟩
   ·have hij:i≠j:=fun e=>by subst e;rw[hk]at hi;cases hi
    have hfi':=hmk i hfi hij
    by_cases him:i=m
    ·subst him
     rw[q4]at hi;injection hi with hi;injection hi with hi hi';subst hi;subst hi'
     have hh2:holds (fun i=>i==j||f i) p (some j)=p.cs:=by simp[holds]
     rw[hh2]
     exact⟨b,(a.eval y).cells,f1,setRow_heap w b us _ p.t (0,0) f2,c1,c2,fun jj u s hu hs=>ho2 (c3 jj u s hu hs),f3,f4,f5,by rw[setRow_size];exact f6⟩
    ·have hne':∀st,s=some st->st≠j:=fun st hst hsj=>by
      subst hst;subst hsj
      obtain⟨o',ho'⟩:=hlk hi
      have:ks[st]?=some (.st (0+i) q):=(hat i o' _ ho' hi).2.2.2.2.2.2
      simp only[qAS]at this
      rw[hk]at this
      injection this with this;injection this with e1 e2
      exact him e1.symm
     have hh2:holds (fun i=>i==j||f i) q s=holds f q s:=by
      cases s with
      |none=>rfl
      |some st =>
       have:(st==j)=false:=by simpa using hne' st rfl
       simp only[holds,this,qBJ]
     rw[hh2]
     obtain⟨b2,us2,g1,g2,y1,y2,y3,g3,g4,g5,g6⟩:=h2 i q s hi hfi'
     have hbb:b2≠b:=fun e=>by
      have:=h3 i m q p s _ hi q4 him hfi' hfm
      rw[g1,f1,e]at this;exact this rfl
     exact⟨b2,us2,g1,(hoth b2 hbb).trans g2,y1,y2,fun jj u s hu hs=>ho2 (y3 jj u s hu hs),g3,g4,g5,by rw[setRow_size];exact g6⟩
   ·have hij:i≠j:=fun e=>by subst e;rw[hk]at hi;cases hi
    have hij2:i2≠j:=fun e=>by subst e;rw[hk]at hi2;cases hi2
    exact h3 i i2 q q' s s' hi hi2 hne (hmk i hf1 hij) (hmk i2 hf2 hij2)
 ·refine qAx (qBO _ _) sI
 ·intro j o hj hl
  have hjl:j<l.length:=(qAA.1 hj).1
  rw[qAQ,qAP (by simpa using hjl)]at hl
  simp at hl
 ·rw[qAQ,qAP pAH]
  simp
 ·obtain⟨g',hg'⟩:=hd
  have hf0:∀i,i<l.length->(Array.replicate l.toArray.size false).getD i true=false:=fun i hi=>by
   rw[qAQ,qAP pAH];simp
  refine⟨g',hg'.get_eq fun t=>.inl ?_,fun j p st hj hf=>?_,fun i j p q s s' hi _ _ hf _=>?_⟩
  ·rw[zCz t l (ks.map SegK.sv) σ σ 0 _ (fun _=>false) rfl (fun i o hi hne=>?_),zFB]
   rw[qAS,hf0 i (qAA.1 hi).1]at hne
   exact absurd rfl hne
  ·have:=hf0 j pAL
   simp only[this]at hf;cases hf
  ·have:=hf0 i (by have:=(qAA.1 hi).1;omega)
   simp only[this]at hf;cases hf
def zCk(P:Program)(t:TypeId): Option (List (Nat×Nat)) :=
 match P.underlying t with
 |some (.struct fs)=>fs.toList.mapM fun f=>(P.info? f.type).map fun i=>(f.offset,i.size)
 |_=>none
def zJL{α:Type}(pl:List (Nat×Nat)): List α->List (Nat×List α)->Option (List α)
 |cs,[]=>some cs
 |cs,(i,vs)::r=>match pl[i]? with
  |some (off,size)=>match Nat.beq vs.length size&&Nat.ble (off+vs.length) cs.length with
   |true=>zJL pl (cs.take off++vs++cs.drop (off+vs.length)) r
   |false=>none
  |none=>none
theorem zOg: ∀(l:List Value) (off k:Nat) (cells:Array Value),off+k+l.length<=cells.size->
  ((l.zipIdx k).foldl (fun cs (x:Value×Nat)=>cs.setIfInBounds (off+x.2) x.1) cells).toList=cells.toList.take (off+k)++l++cells.toList.drop (off+k+l.length)
 |[],off,k,cells,_=>by simp
 |v::l,off,k,cells,h=>by
  have hl:off+k<cells.size:=by simp at h;omega
  simp only[List.zipIdx_cons,List.foldl_cons]
  rw[zOg l off (k+1) _ (by simp at h ⊢;omega)]
  have e1:(cells.setIfInBounds (off+k) v).toList=cells.toList.take (off+k)++v::cells.toList.drop (off+k+1):=by
   rw[Array.toList_setIfInBounds,List.set_eq_take_append_cons_drop,if_pos (by simpa using hl)]
  have e2:(cells.toList.take (off+k)).length=off+k:=by rw[qAU,qAV];omega
  rw[e1,show off+(k+1)=off+k+1 by omega]
  have e5:cells.toList.drop (off+k+1+l.length)=(cells.toList.drop (off+k+1)).drop l.length:=by rw[qBs]
  rw[qAK,show off+k+(l.length+1)=off+k+1+l.length by omega,e5]
  generalize cells.toList.take (off+k)=A at *
  generalize cells.toList.drop (off+k+1)=B at *
  rw[List.take_append,List.drop_append,e2,qAe oM,List.drop_eq_nil_of_le (by omega:A.length<=off+k+1+l.length)]
  rw[show off+k+1-(off+k)=1 by omega,show off+k+1+l.length-(off+k)=l.length+1 by omega]
  simp
theorem zRO{α:Type}{R:Value->α->Prop}{pl:List (Nat×Nat)}: ∀(ps:List (Nat×Value)) (ss:List (Nat×List α)) (cells:Array Value) (cs cs':List α),ps.length=ss.length->
  (∀(j:Nat) p q,ps[j]?=some p->ss[j]?=some q->p.1=q.1/\p.2.cells.size=q.2.length/\∀(i:Nat) u s,p.2.cells[i]?=some u->q.2[i]?=some s->R u s)->
  cells.size=cs.length->(∀(i:Nat) u s,cells[i]?=some u->cs[i]?=some s->R u s)->zJL pl cs ss=some cs'->
  ∃cells',Instr.fill (pl.toArray[·]?) cells ps=some cells'/\cells'.size=cs'.length/\∀(i:Nat) u s,cells'[i]?=some u->cs'[i]?=some s->R u s
 |[],[],cells,cs,cs',_,_,hs,hr,h=>by simp only[zJL,qBt]at h;subst h;exact⟨cells,rfl,hs,hr⟩
 |(i,v)::ps,(i',vs)::ss,cells,cs,cs',hl,hp,hs,hr,h=>by
  obtain⟨q1,q2,q3⟩:=hp 0 _ _ rfl rfl
  simp only at q1 q2 q3
  subst q1
  unfold zJL at h
  split at h
  ·rename_i off size hpl
   split at h
   ·rename_i hc
    rw[qAR]at hc
    have c1:=qAX hc.1
    have c2:=qAM hc.2
    have hfold:=zOg v.cells.toList off 0 cells (by rw[qAV];omega)
    have hz:(v.cells.zipIdx.foldl (fun cs (x:Value×Nat)=>cs.setIfInBounds (off+x.2) x.1) cells).toList=cells.toList.take off++v.cells.toList++cells.toList.drop (off+v.cells.size):=by
     rw[<-Array.foldl_toList,Array.toList_zipIdx]
     simpa using hfold
    have hsz:(v.cells.zipIdx.foldl (fun cs (x:Value×Nat)=>cs.setIfInBounds (off+x.2) x.1) cells).size=cells.size:=by
     rw[<-qAV,hz];simp;omega
    obtain⟨cells',r1,r2,r3⟩:=zRO (R:=R) ps ss (v.cells.zipIdx.foldl (fun cs (x:Value×Nat)=>cs.setIfInBounds (off+x.2) x.1) cells) _ cs' (by simpa using hl) (fun j p q h1 h2=>hp (j+1) p q (by simpa using h1) (by simpa using h2)) (by rw[hsz];simp;omega) (fun j u s hu hsj=>by
     rw[<-qAz,hz]at hu
     have e1:(cells.toList.take off).length=off:=by rw[qAU,qAV];omega
     have e2:(cs.take off).length=off:=by rw[qAU];omega
     rcases qAF j off with hj|hj
     ·rw[qAY,qAG oM,qAd,if_pos hj]at hu hsj
      exact hr j u s pAI hsj
     ·rw[qAY,qAD oM]at hu hsj
      rw[e1]at hu;rw[e2]at hsj
      rcases qAF (j-off) vs.length with hj2|hj2
      ·rw[qAG (by first|omega|(rw[qAV];omega))]at hu hsj
       exact q3 (j-off) u s pAI hsj
      ·rw[qAD (by first|omega|(rw[qAV];omega))]at hu hsj
       rw[qAV,q2]at hu
       simp only[qBC]at hu hsj
       exact hr (off+vs.length+(j-off-vs.length)) u s pAI hsj) h
    refine⟨cells',?_,r2,r3⟩
    have hpl':pl.toArray[i]?=some (off,size):=by simpa using hpl
    have hcond:(decide (v.cells.size≠size)||decide (off+v.cells.size>cells.size))=false:=by simp;omega
    simp only[Instr.fill,hpl',hcond,qBb,if_false]
    exact r1
   ·cases h
  ·cases h
 |[],_::_,_,_,_,hl,_,_,_,_=>by simp at hl
 |_::_,[],_,_,_,hl,_,_,_,_=>by simp at hl
theorem zO4{P:Program}{t:TypeId}{pl:List (Nat×Nat)}{zs:List Value}{α:Type}{R:Value->α->Prop}{ps:List (Nat×Value)}{ss:List (Nat×List α)}{cs cs':List α}(hpl:zCk P t=some pl)(hz:zBv P t=some zs)(hl:ps.length=ss.length)
  (hp:∀(j:Nat) p q,ps[j]?=some p->ss[j]?=some q->p.1=q.1/\p.2.cells.size=q.2.length/\∀(i:Nat) u s,p.2.cells[i]?=some u->q.2[i]?=some s->R u s)
  (hzl:zs.length=cs.length) (hzr:∀(i:Nat) u s,zs[i]?=some u->cs[i]?=some s->R u s) (h:zJL pl cs ss=some cs'):∃cells',P.built t ps=some cells'/\cells'.size=cs'.length/\∀(i:Nat) u s,cells'[i]?=some u->cs'[i]?=some s->R u s:=by
 unfold zCk at hpl
 split at hpl
 ·rename_i fs hfs
  unfold zBv at hz
  split at hz
  ·rename_i it hit
   split at hz
   ·rename_i z hzz
    split at hz
    ·injection hz with hz;subst hz
     obtain⟨cells',r1,r2⟩:=zRO (R:=R) (pl:=pl) ps ss z.cells cs cs' hl hp (by simpa using hzl) (fun i u s hu hs=>hzr i u s pAI hs) h
     exact⟨cells',by simp only[Program.built,hit,hfs,hzz,hpl];exact r1,r2⟩
    ·cases hz
   ·cases hz
  ·cases hz
 ·cases hpl
def zJe(η:List Ob)(σ:Sl): List (Nat×Operand)->List (Nat×D)->Prop
 |[],[]=>True
 |(i,x)::r,(j,d)::s=>Nat.beq i j=true/\Co η (oval σ x) d/\okc d=true/\zJe η σ r s
 |_,_=>False
theorem zBE{η:List Ob}{σ:Sl}: zJe η σ [] []:=trivial
theorem PD_d{η:List Ob}{σ:Sl}{i:Nat}{x:Operand}{d:D}{r:List (Nat×Operand)}{s:List (Nat×D)}(h:oval σ x=.d d)(ho:okc d=true)(k:zJe η σ r s): zJe η σ ((i,x)::r) ((i,d)::s):=⟨by simp,by rw[h];rfl,ho,k⟩
theorem zLy{η:List Ob}{σ:Sl}{g:Gh}{w:World}{a:Act}(hi:Inv g w η): ∀(ps:List (Nat×Operand)) (ds:List (Nat×D)),(∀p∈ps,RepS g w (a.eval p.2) (oval σ p.2))->zJe η σ ps ds->(ps.map fun p=>(p.1,a.eval p.2)).length=(ds.map fun p=>(p.1,p.2.flat)).length/\
  ∀(j:Nat) p q,(ps.map fun p=>(p.1,a.eval p.2))[j]?=some p->(ds.map fun p=>(p.1,p.2.flat))[j]?=some q->p.1=q.1/\p.2.cells.size=q.2.length/\∀(i:Nat) u s,p.2.cells[i]?=some u->q.2[i]?=some s->RepD g.St w u s/\u.oneCell'=true
 |[],[],_,_=>⟨rfl,fun j p q h=>by simp at h⟩
 |(i,x)::r,(j',d)::s,ho,⟨h1,h2,h3,h4⟩=>by
  obtain⟨e1,e2⟩:=zLy hi r s (fun p hp=>ho p (by simp[hp])) h4
  have hr:=h2.rep hi (ho (i,x) sI)
  refine⟨by simpa using e1,fun j p q hp hq=>?_⟩
  cases j with
  |zero =>
   simp at hp hq;subst hp;subst hq
   have hc:=RepS.cells (g:=g) (w:=w) (v:=a.eval x) (s:=.d d) hr (zKV h3)
   refine⟨qAX h1,by simpa using hc.1,fun i u s hu hs=>⟨?_,hc.2.1 u (Array.mem_of_getElem? hu)⟩⟩
   have hs':(d.flat.map SV.d)[i]?=some (.d s):=by rw[qAJ];simp only at hs;rw[hs];rfl
   exact hc.2.2 i u (.d s) hu hs'
  |succ j=>exact e2 j p q (by simpa using hp) (by simpa using hq)
 |[],_::_,_,h=>h.elim
 |_::_,[],_,h=>h.elim
section
variable {P:Program}{η:List Ob}{σ:Sl}{dst:Option Nat}{ty:TypeId}{pos:String}{after:Array Edge}{gd:Option (Nat×Bool)}{t:TypeId}{x y:Operand}
theorem zAo{ps:List (Nat×Operand)}{ds:List (Nat×D)}{pl:List (Nat×Nat)}{zs:List Value}{cs:List D}(hpl:zCk P t=some pl)(hz:zBv P t=some zs)(hp:zJe η σ ps ds)(hf:zJL pl (zs.map zdv) (ds.map fun p=>(p.1,p.2.flat))=some cs):
  Ylds P η σ ⟨dst,.build t ps.toArray,ty,pos,after,gd⟩ (.d (.agg cs)):=by
 refine Ylds.same fun g w a hi h=>?_
 obtain⟨e1,e2⟩:=zLy (a:=a) hi ps ds (fun p hp=>h p.2 (by
  simp only[Op.operands,List.mem_toArray,qAo];exact⟨p,hp,rfl⟩)) hp
 obtain⟨cells',r1,r2,r3⟩:=zO4 (R:=fun u d=>RepD g.St w u d/\u.oneCell'=true) (cs:=zs.map zdv) hpl hz e1 e2 sI (fun i u s hu hs=>by
  rw[qAJ,hu]at hs
  simp at hs;subst hs
  exact⟨zI7 _ _ u,(zI6 hz).1 u (qAC hu)⟩) hf
 have hall:∀(j:Nat) u,cells'[j]?=some u->u.oneCell'=true:=fun j u hu=>by
  have hj:j<cs.length:=by rw[<-r2];exact(qAn.1 hu).1
  exact(r3 j u _ hu (qAB hj)).2
 refine⟨.agg cells',?_,?_⟩
 ·have:=run_build (P:=P) w t (ps.map fun p=>(p.1,a.eval p.2)).toArray cells' (by simpa using r1)
  simp only[execOp,Sem.run_bind,qA4,this,Result.andThen_ok,Sem.run_pure]
 ·have:=RepD.agg (St:=g.St) (w:=w) cells'.toList cs (by simpa using r2) (fun u hu=>by
   obtain⟨j,hj,rfl⟩:=qBf.1 hu
   exact hall j _ (by rw[Array.getElem_toList];exact qAP _)) (fun j u d hu hd=>(r3 j u d pAI hd).1)
  show RepD _ _ _ _
  simpa using this
end
def zLw(σ:Sl): List (Nat×Operand)->List (Nat×List SV)->Prop
 |[],[]=>True
 |(i,x)::r,(j,cs)::s=>Nat.beq i j=true/\zHA (oval σ x)=some cs/\zLw σ r s
 |_,_=>False
theorem zZC{σ:Sl}: zLw σ [] []:=trivial
theorem zLS{σ:Sl}{i:Nat}{x:Operand}{cs:List SV}{r:List (Nat×Operand)}{s:List (Nat×List SV)}(h:zHA (oval σ x)=some cs)(k:zLw σ r s): zLw σ ((i,x)::r) ((i,cs)::s):=⟨by simp,h,k⟩
theorem zLv{σ:Sl}{g:Gh}{w:World}{a:Act}: ∀(ps:List (Nat×Operand)) (ss:List (Nat×List SV)),(∀p∈ps,RepS g w (a.eval p.2) (oval σ p.2))->zLw σ ps ss->(ps.map fun p=>(p.1,a.eval p.2)).length=ss.length/\
  ∀(j:Nat) p q,(ps.map fun p=>(p.1,a.eval p.2))[j]?=some p->ss[j]?=some q->p.1=q.1/\p.2.cells.size=q.2.length/\∀(i:Nat) u s,p.2.cells[i]?=some u->q.2[i]?=some s->RepS g w u s/\u.oneCell'=true
 |[],[],_,_=>⟨rfl,fun j p q h=>by simp at h⟩
 |(i,x)::r,(j',cs)::s,ho,⟨h1,h2,h4⟩=>by
  obtain⟨e1,e2⟩:=zLv r s (fun p hp=>ho p (by simp[hp])) h4
  have hc:=(ho (i,x) sI).cells h2
  refine⟨by simpa using e1,fun j p q hp hq=>?_⟩
  cases j with
  |zero =>
   simp at hp hq;subst hp;subst hq
   exact⟨qAX h1,hc.1,fun i u s hu hs=>⟨hc.2.2 i u s hu hs,hc.2.1 u (Array.mem_of_getElem? hu)⟩⟩
  |succ j=>exact e2 j p q (by simpa using hp) (by simpa using hq)
 |[],_::_,_,h=>h.elim
 |_::_,[],_,h=>h.elim
section
variable {C:Ctx}{ops:Array Oper}{rest:List Oper}{K:Sl->List Ob->Prop}{σ:Sl}{η:List Ob}{d d2:Nat}{ty ty2:TypeId}{pos pos2:String}{after after2:Array Edge}{t:TypeId}
theorem zPF{ps:List (Nat×Operand)}{ss:List (Nat×List SV)}{pl:List (Nat×Nat)}{zs:List Value}{cs:List SV}(hpl:zCk C.P t=some pl)(hz:zBv C.P t=some zs)(hp:zLw σ ps ss)(hf:zJL pl (zs.map cst) ss=some cs)
  (hd:Nat.blt d C.N=true) (hd2:Nat.blt d2 C.N=true) (hro:Nat.ble C.ro η.length=true) (h:alex C false ops rest K ((d2,.ptr η.length 0)::(d,.top)::σ) (η++[.bx none (some t) cs])) :
  alex C false ops (⟨some d,.build t ps.toArray,ty,pos,after,none⟩ :: ⟨some d2,.box t (.tmp d),ty2,pos2,after2,none⟩::rest) K σ η:=by
 refine w0 ?_
 intro Q hQ a w ⟨g,ha⟩ K' hK'
 obtain⟨e1,e2⟩:=zLv (g:=g) (w:=w) (a:=a) ps ss (fun p _=>ha.eval p.2) hp
 obtain⟨cells',r1,r2,r3⟩:=zO4 (R:=fun u s=>RepS g w u s/\u.oneCell'=true) (cs:=zs.map cst) hpl hz e1 e2 sI (fun i u s hu hs=>by
  rw[qAJ,hu]at hs
  simp at hs;subst hs
  exact⟨RepS.cst _ _ u,(zI6 hz).1 u (qAC hu)⟩) hf
 have hall:∀u∈cells',u.oneCell'=true:=fun u hu=>by
  obtain⟨j,hj,rfl⟩:=Array.mem_iff_getElem.1 hu
  have hjc:j<cs.length:=by rw[<-r2];exact hj
  exact(r3 j _ _ (qAP hj) (qAB hjc)).2
 have hrun:(execOp a.eval ⟨some d,.build t ps.toArray,ty,pos,after,none⟩).run C.P w=.ok (.value (.agg cells')) w:=by
  have:=run_build (P:=C.P) w t (ps.map fun p=>(p.1,a.eval p.2)).toArray cells' (by simpa using r1)
  simp only[execOp,Sem.run_bind,qA4,this,Result.andThen_ok,Sem.run_pure]
 unfold Oper.wp
 rw[hrun]
 refine hK' _ _ ?_
 have ha1:=ha.put (d:=some d) (v:=.agg cells') (s:=.top) hd trivial
 have hev:(a.put (some d) (.agg cells')).eval (.tmp d)=.agg cells':=by
  have hlt:d<a.tmps.size:=by rw[ha.size];simpa[Nat.blt_eq]using hd
  simp[Act.eval,Act.put,hlt]
 refine wpList_step fun K2 hK2=>?_
 rw[if_pos (show Region.wanted ⟨some d2,.box t (.tmp d),ty2,pos2,after2,none⟩ _=true from rfl)]
 unfold Oper.wp
 have hrun2:(execOp (a.put (some d) (.agg cells')).eval ⟨some d2,.box t (.tmp d),ty2,pos2,after2,none⟩).run C.P w=.ok (.value (.pointer (some ⟨w.heap.size,0,none⟩))) (w.alloc (.cells cells' t)):=by
  simp only[execOp,hev]
  simp[Instr.box,newVar,newRow,Value.cells]
 rw[hrun2]
 exact hK2 _ _ (h Q hQ _ _ (zWA (some t) ha1 t (fun _ h=>(qBR h).symm) cells' cs hd2 (qAM hro) r2 hall (fun j u s hu hs=>(r3 j u s hu hs).1)))
end
section
variable {C:Ctx}{ops:Array Oper}{rest:List Oper}{K:Sl->List Ob->Prop}{σ:Sl}{η:List Ob}{d:Nat}{ty:TypeId}{pos:String}{after:Array Edge}{gd:Option (Nat×Bool)}{t:TypeId}{x y:Operand}
variable {P:Program}{dst:Option Nat}{yt:TypeId}
theorem zYU{xs:List D}(hx:oval σ x=.d (.slice xs))(hy:oval σ y=.nil)(hne:xs≠[])(hu:(zCB P t).isSome=true): Ylds P η σ ⟨dst,.binOp .eql t x y yt,ty,pos,after,gd⟩ (.d (.val (.bool false))):=by
 obtain⟨e,he⟩:=Option.isSome_iff_exists.1 hu
 refine Ylds.same fun g w a hi h=>⟨.bool false,?_,.val _⟩
 have h1:=h x sO;rw[hx]at h1
 have h2:=h y sO;rw[hy]at h2
 change RepD _ _ _ _ at h1
 change _=_ at h2
 generalize hv:a.eval x=v at h1
 cases h1 with
 |slice ad len cap sz _ us hlen hcap hm hsz hus hone hcell =>
  obtain⟨ad',rfl,_⟩:=hcell (qBm.2 hne)
  have hg:(eqGuard .eql t x y (.slice (some ad') len cap) (.slice none 0 0)).run P w=.ok () w:=by first|rfl|simp[eqGuard]|simp[go_sem]
  have hq:(binOp .eql t (.slice (some ad') len cap) (.slice none 0 0)).run P w=.ok (.bool false) w:=by
   have:=run_equal_slice_nil (P:=P) (w:=w) t e (some ad') len cap (zCw he)
   simp[go_sem,binOp,this]
  simp only[execOp,hv,h2,Sem.run_bind,hg,hq,Result.andThen_ok,Sem.run_pure]
end
theorem SArgs.congr{σ σ':Sl}{ids:List Nat}: ∀{xs:List Operand} {as:List SV},SArgs σ ids xs as->(∀x∈xs,oval σ' x=oval σ x)->SArgs σ' ids xs as
 |[],[],_,_=>trivial
 |x::xs,s::as,h,ho=>⟨by rw[ho x sI];exact h.1,SArgs.congr h.2 fun y hy=>ho y (by simp[hy])⟩
 |[],_::_,h,_=>h.elim
 |_::_,[],h,_=>h.elim
end Go.Sx
namespace Go.Sx
open Go.RowKit Go.Lib
def dfn: D->Option Bool
 | .val .nilFunc=>some false
 | .val (.func _ _ _)=>some true
 | .clo _ _=>some true
 |_=>none
section
variable {P:Program}{η:List Ob}{σ:Sl}{dst:Option Nat}{ty:TypeId}{pos:String}{after:Array Edge}{gd:Option (Nat×Bool)}{t yt:TypeId}{x y:Operand}
theorem RepDs.of_list{St:Stab}{w:World}: ∀{vs:List Value} {ds:List D},vs.length=ds.length->(∀(j:Nat) (u:Value) (d:D),vs[j]?=some u->ds[j]?=some d->RepD St w u d)->RepDs St w vs ds
 |[],[],_,_=>trivial
 |v::vs,d::ds,hl,h=>⟨h 0 v d rfl rfl,RepDs.of_list (by simpa using hl) fun j u e hu he=>h (j+1) u e pAI (by simpa using he)⟩
theorem RepDs.app{St:Stab}{w:World}: ∀{vs us:List Value} {ds es:List D},RepDs St w vs ds->RepDs St w us es->RepDs St w (vs++us) (ds++es)
 |[],_,[],_,_,h=>h
 |_::_,_,_::_,_,⟨h1,h2⟩,h=>⟨h1,RepDs.app h2 h⟩
theorem zcT{f:FuncId}{args:List Operand}{ts:Array TypeId}{cs ds:List D}{res:D}(hx:oval σ x=.d (.clo f cs))(hb:zAQ P f=true)(hc:zAX P f (ds++cs) res)(ha:CoL η σ args ds):
  Ylds P η σ ⟨dst,.call ⟨.value x,args.toArray,ts⟩,ty,pos,after,gd⟩ (.d res):=by
 intro g w a hi hop
 have hr:=CoL.rep (a:=a) hi args ds (fun y hm=>hop y (by simp[Op.operands,Call.operands,hm])) ha
 have hxr:=hop x pAG;rw[hx]at hxr
 obtain⟨vs,hv,hl,hvs⟩:∃vs:List Value,a.eval x=.func (.func f) #[] vs.toArray/\vs.length=cs.length/\∀(j:Nat) (u:Value) (d:D),vs[j]?=some u->cs[j]?=some d->RepD g.St w u d:=by
  change RepD _ _ _ _ at hxr
  generalize a.eval x=v at hxr
  cases hxr with
  |clo f vs ds hl h=>exact⟨vs,rfl,hl,h⟩
 refine .inr ⟨f,(args.map a.eval++vs).toArray,?_,?_⟩
 ·simp only[execOp,resolve,hv,Deferred.ofValue,invoke,Sem.run_bind,Sem.run_pure,Result.andThen_ok,qA4,qBW]
  rw[List.append_toArray]
  exact zDG hb
 ·refine(hc g.St w _ hi.st hi.gl (hr.app (RepDs.of_list hl hvs))).mono fun e w' ⟨v,St',he,hrep,hbel,hkeep,hnew,hlt⟩=>?_
  exact⟨v,{ g with St:=St' },he,⟨rfl,rfl,rfl,rfl,hbel.os,hbel.tape,hbel.output,hbel.size,hbel.block,hkeep.sub,hnew,hlt⟩,hrep⟩
theorem RepD.rptr{g:Gh}{w:World}{v:Value}{cs:List D}(h:RepD g.St w v (.ref cs)): RepS g w v (.rptr cs):=by
 cases h with
 |ref ad us cs hl h1 hc h=>exact⟨ad,us,rfl,hl,h1,hc,h⟩
theorem zDu{cs:List D}{d:D}{n:Nat}(hx:oval σ x=.d (.ref (d::cs)))(ht:zBh P t=some (false,n)): Ylds P η σ ⟨dst,.load t x,ty,pos,after,gd⟩ (.d d):=by
 refine Ylds.same fun g w a hi h=>?_
 have h0:=h x sO;rw[hx]at h0
 obtain⟨ad,us,hv,hl,ho,hc,hr⟩:=RepD.rptr h0
 cases us with
 |nil=>simp at hl
 |cons u us =>
  have h0:=(hc 0 u rfl).2
  refine⟨u,?_,hr 0 u d rfl rfl⟩
  simp only[Addr.add_zero']at h0
  simp[execOp,hv,Instr.loadAt,Instr.sureAddr,loadVar,(zCb ht w).1,h0]
def VCall(P:Program)(d:D)(ds:List D)(res:D): Prop:=∃f cs,d=.clo f cs/\zAQ P f=true/\zAX P f (ds++cs) res
theorem zE8{d:D}{args:List Operand}{ts:Array TypeId}{ds:List D}{res:D}(hc:VCall P d ds res)(hx:oval σ x=.d d)(ha:CoL η σ args ds):
  Ylds P η σ ⟨dst,.call ⟨.value x,args.toArray,ts⟩,ty,pos,after,gd⟩ (.d res):=by
 obtain⟨f,cs,rfl,hb,hc⟩:=hc
 exact zcT hx hb hc ha
theorem VCall.fn{d:D}{ds:List D}{res:D}(h:VCall P d ds res): dfn d=some true:=by obtain⟨f,cs,rfl,_⟩:=h;rfl
theorem zcf{s:SV}{f:FuncId}(h:s=.clo f []): Co η s (.clo f []):=by rw[h];exact⟨rfl,rfl⟩
theorem PD_c{i:Nat}{f:FuncId}{r:List (Nat×Operand)}{s:List (Nat×D)}(h:oval σ x=.clo f [])(hr:zJe η σ r s): zJe η σ ((i,x)::r) ((i,.clo f [])::s) :=
 ⟨by simp,zcf h,rfl,hr⟩
theorem zJp{P:Program}(w:World)(d:Nat)(t:TypeId){ps rs:Array TypeId}{v:Bool}(fn:Fn)(a b:Array Value)(h:P.underlying t=some (.func ps rs v)):
  (Op.equalIn (d+1) t .nilFunc .nilFunc).run P w=.ok true w/\(Op.equalIn (d+1) t (.func fn a b) .nilFunc).run P w=.ok false w:=by
 constructor <;> simp[Op.equalIn,run_underlying h]
theorem zF9{P:Program}(w:World)(t:TypeId){ps rs:Array TypeId}{v:Bool}(fn:Fn)(a b:Array Value)(h:P.underlying t=some (.func ps rs v)):
  (binOp .eql t .nilFunc .nilFunc).run P w=.ok (.bool true) w/\(binOp .eql t (.func fn a b) .nilFunc).run P w=.ok (.bool false) w/\
  (binOp .neq t .nilFunc .nilFunc).run P w=.ok (.bool false) w/\(binOp .neq t (.func fn a b) .nilFunc).run P w=.ok (.bool true) w:=by
 obtain⟨h1,h2⟩:=zJp w 9999 t fn a b h
 refine⟨?_,?_,?_,?_⟩ <;> simp only[binOp] <;> simp[Op.equal,Op.maxDepth,h1,h2]
def fnTy(P:Program)(t:TypeId): Bool:=match P.underlying t with
 |some (.func _ _ _)=>true
 |_=>false
theorem zOh{P:Program}{t:TypeId}(h:fnTy P t=true): ∃ps rs v,P.underlying t=some (.func ps rs v):=by
 unfold fnTy at h
 split at h
 ·rename_i ps rs v hu;exact⟨ps,rs,v,hu⟩
 ·cases h
theorem zVi{St:Stab}{w:World}{v:Value}{d:D}{b:Bool}(h:RepD St w v d)(hd:dfn d=some b): (b=false/\v=.nilFunc)\/(b=true/\∃fn p q,v=.func fn p q):=by
 unfold dfn at hd
 split at hd
 ·injection hd with hd;subst hd;exact .inl ⟨rfl,RepD.val_eq h⟩
 ·injection hd with hd;subst hd;exact .inr ⟨rfl,_,_,_,RepD.val_eq h⟩
 ·injection hd with hd;subst hd
  cases h with
  |clo f vs ds hl h=>exact .inr ⟨rfl,_,_,_,rfl⟩
 ·cases hd
theorem zZA{d:D}{b:Bool}(hx:oval σ x=.d d)(hd:dfn d=some b)(hy:oval σ y=.d (.val .nilFunc))(hu:fnTy P t=true): Ylds P η σ ⟨dst,.binOp .eql t x y yt,ty,pos,after,gd⟩ (.d (.val (.bool (!b)))):=by
 obtain⟨ps,rs,v,hu⟩:=zOh hu
 refine Ylds.same fun g w a hi h=>⟨.bool (!b),?_,.val _⟩
 have h1:=h x sO;rw[hx]at h1
 have h2:=h y sO;rw[hy]at h2
 rcases zVi h1 hd with⟨rfl,hv⟩|⟨rfl,fn,p,q,hv⟩
 ·have:=(zF9 (P:=P) w t (.func 0) #[] #[] hu).1
  simp[execOp,hv,RepD.val_eq h2,eqGuard,this]
 ·have:=(zF9 (P:=P) w t fn p q hu).2.1
  simp[execOp,hv,RepD.val_eq h2,eqGuard,this]
theorem zWH{d:D}{b:Bool}(hx:oval σ x=.d d)(hd:dfn d=some b)(hy:oval σ y=.d (.val .nilFunc))(hu:fnTy P t=true): Ylds P η σ ⟨dst,.binOp .neq t x y yt,ty,pos,after,gd⟩ (.d (.val (.bool b))):=by
 obtain⟨ps,rs,v,hu⟩:=zOh hu
 refine Ylds.same fun g w a hi h=>⟨.bool b,?_,.val _⟩
 have h1:=h x sO;rw[hx]at h1
 have h2:=h y sO;rw[hy]at h2
 rcases zVi h1 hd with⟨rfl,hv⟩|⟨rfl,fn,p,q,hv⟩
 ·have:=(zF9 (P:=P) w t (.func 0) #[] #[] hu).2.2.1
  simp[execOp,hv,RepD.val_eq h2,eqGuard,this]
 ·have:=(zF9 (P:=P) w t fn p q hu).2.2.2
  simp[execOp,hv,RepD.val_eq h2,eqGuard,this]
end
section
variable {C:Ctx}{σ:Sl}{η:List Ob}
theorem Abs.boxRef{a:Act}{w:World}(id:Nat){kb:Option Nat}{et:Option TypeId}{ds:List D}(k:Nat){f:FuncId}(hk:get σ k=.clo f [id])(ho:η[id]?=some (.bx kb et (ds.map .d)))(hro:C.ro<=id)(h:Abs C σ η a w):
  Abs C ((k,.d (.clo f [.ref ds]))::σ) (η.set id .gone) a w:=by
 obtain⟨g,ha⟩:=h
 have hidl:id<η.length:=(qAA.1 ho).1
 obtain⟨b,e,us,o1,o2,o3,o4,o5,o6,o7⟩:=ha.inv.ob id _ ho
 have hbl:=ha.inv.lt id b o1
 let g':Gh:={ g with St:=fun b' o=>g.St b' o\/(b'=b/\o<us.size) }
 have kp:Keep g.St w g'.St w:=⟨fun _ _ h=>.inl h,fun _ _ _ _ h=>h,fun _ _=>rfl⟩
 have re:∀{v:Value} {s:SV},RepS g w v s->RepS g' w v s:=fun r=>r.ext kp (fun _ _=>⟨rfl,rfl,rfl⟩) (qAN _)
 have lt:∀b o,g'.St b o->b<w.heap.size:=fun b' o hb=>by
  rcases hb with hb|⟨rfl,_⟩
  ·exact ha.inv.st b' o hb
  ·exact hbl
 refine⟨g',ha.defers,ha.size,⟨by rw[qAv];exact ha.inv.n,ha.inv.lt,ha.inv.dead,ha.inv.inj,fun i o hi=>?_,lt,ha.inv.gl.keep kp⟩,ha.os,ha.tape,ha.output,ha.wsize,ha.heap,ha.keep.trans kp,fun b' o hb=>?_,ha.own,fun t=>?_⟩
 ·rw[qAh]at hi
  split at hi
  ·injection hi with hi;subst hi;trivial
  ·rename_i hne
   refine(ha.inv.ob i o hi).ext kp (fun _ _=>⟨rfl,rfl,rfl⟩) (qAN _) (by rw[ha.inv.n];exact(qAA.1 hi).1) (fun b' hb=>⟨rfl,fun o=>⟨fun ho'=>?_,fun h=>.inl h⟩⟩)
   rcases ho' with h1|⟨h1,_⟩
   ·exact h1
   ·rw[h1]at hb
    exact absurd (ha.inv.inj i id b hb o1) (fun h=>hne h.symm)
 ·rcases hb with hb|⟨rfl,_⟩
  ·exact ha.new b' o hb
  ·exact(ha.own id b' o1 hro).elim (fun h=>.inr (.inl h)) (fun h=>.inr (.inr h))
 ·rw[zBl]
  split
  ·rename_i hc;subst hc
   have hkr:=ha.rep k;rw[hk]at hkr
   obtain⟨vs,hv,hl,hvs⟩:=hkr
   rw[hv]
   match vs,hl,hvs with
   |[u],_,hvs =>
    obtain⟨_,b2,hb2,rfl⟩:=hvs 0 id u rfl rfl
    rw[o1]at hb2;injection hb2 with hb2;subst hb2
    have hul:us.toList.length=ds.length:=by rw[qAV,o3,qAE]
    refine .clo f [_] [_] rfl fun j u d hu hd=>?_
    match j,hu,hd with
    |0,hu,hd =>
     simp at hu hd;subst hu;subst hd
     refine .ref _ us.toList ds hul (fun u hu=>o4 u pAI) (fun j u hu=>⟨?_,?_⟩) fun j u d hu hd=>?_
     ·have:=(qAA.1 hu).1
      exact .inr ⟨rfl,by simpa using this⟩
     ·rw[Addr.add_lit,qAS,cell_of_row w b j us e (0,0) o2];simpa using hu
     ·exact(o5 j u (.d d) pAI (by rw[qAJ,hd];rfl)).keep kp
    |j+1,hu,_=>simp at hu
  ·exact re (ha.rep t)
theorem zS0{Q:Exit->Sl->List Ob->Prop}{c:Code}(id k:Nat){kb:Option Nat}{et:Option TypeId}{ds:List D}{f:FuncId}(hk:get σ k=.clo f [id])(ho:η[id]?=some (.bx kb et (ds.map .d)))(hro:Nat.ble C.ro id=true)
  (h:awp C c Q ((k,.d (.clo f [.ref ds]))::σ) (η.set id .gone)):awp C c Q σ η:=by
 intro R hR a w hab
 exact h R hR a w (hab.boxRef id k hk ho (qAM hro))
end
section
variable {κ:Type}[DecidableEq κ]{enc:κ->Value}
def delK{κ:Type}[DecidableEq κ]: List (κ×D)->κ->List (κ×D)
 |[],_=>[]
 |(k,d)::r,a=>if k=a then r else(k,d)::delK r a
theorem zLC: ∀{L:List (κ×D)} {a:κ} {d:D},zES L a=some d->delK L a=L.eraseIdx (idxK L a)
 |[],a,d,h=>by cases h
 |(k,x)::r,a,d,h=>by
  unfold zES at h
  unfold delK idxK
  split at h
  ·rename_i hk;rw[if_pos hk,if_pos hk];rfl
  ·rename_i hk;rw[if_neg hk,if_neg hk,List.eraseIdx_cons_succ,zLC h]
theorem zLD: ∀{L:List (κ×D)} {a:κ},zES L a=none->delK L a=L
 |[],a,h=>rfl
 |(k,x)::r,a,h=>by
  unfold zES at h
  unfold delK
  split at h
  ·cases h
  ·rename_i hk;rw[if_neg hk,zLD h]
omit [DecidableEq κ] in
theorem zPn{g:Gh}{w:World}{id:Nat}{q:Bool}{kb:Option Nat}{L:List (κ×D)}(h:ObOk g w id (.mapq q kb (kvs enc L))): ∃b es ck,g.blk id=some b/\w.heap[b]?=some (.map es ck)/\es.toList.length=L.length/\
  (∀(j:Nat) e p,es.toList[j]?=some e->L[j]?=some p->e.key=enc p.1)/\(∀(j:Nat) e p,es.toList[j]?=some e->L[j]?=some p->RepD g.St w e.val p.2)/\∀o,¬g.St b o:=by
 obtain⟨b,es,ck,h1,h2,h3,h4,h5,_⟩:=h
 rw[zKn]at h3
 refine⟨b,es,ck,h1,h2,by simpa using h3,fun j e p he hp=>?_,fun j e p he hp=>?_,h5⟩
 ·exact(h4 j e (enc p.1,p.2) (by simpa using he) (by rw[zJK,hp];rfl)).1
 ·exact(h4 j e (enc p.1,p.2) (by simpa using he) (by rw[zJK,hp];rfl)).2
theorem zUV{P:Program}{t:TypeId}{g:Gh}{w:World}{id k e:Nat}{q:Bool}{kb:Option Nat}{L:List (κ×D)}{zd:D}(h:ObOk g w id (.mapq q kb (kvs enc L)))(ht:zGR P t=some (k,e))(hk:KeyOk P k enc)(hz:zKH P e=some zd)(a:κ)(c:Bool):
  ∃b v,g.blk id=some b/\(Instr.lookup t (.map (some b)) (enc a) c).run P w=.ok (if c then .tuple #[v,.bool (zES L a).isSome]else v) w/\RepD g.St w v ((zES L a).getD zd):=by
 obtain⟨b,es,ck,h1,h2,h3,h4,h5,_⟩:=zPn h
 obtain⟨kind,k1,k2,k3,k4⟩:=hk.ex
 obtain⟨z,z1,z2⟩:=zNX hz
 have hck:=MapKept.run_checkKey (w:=w) k1 (k2 a) es.isEmpty 9999
 rcases zGe k3 a es.toList L 0 h3 h4 with⟨f1,f2⟩|⟨e0,d0,f1,f2,f3⟩
 ·refine⟨b,z,h1,?_,by rw[f1];exact z2 _ _⟩
  simp only[Instr.lookup,Sem.run_bind,run_underlying (zDs ht),MapKept.run_getObj_map h2,hck,MapKept.run_findKey k1 f2,z1,f1,Result.andThen,Sem.run_pure]
  cases c <;> rfl
 ·have hp:=(zFi f2).1
  refine⟨b,e0.val,h1,?_,by rw[f2];exact h5 _ _ _ f1 hp⟩
  simp only[Instr.lookup,Sem.run_bind,run_underlying (zDs ht),MapKept.run_getObj_map h2,hck,MapKept.run_findKey k1 f3,f2,Result.andThen,Sem.run_pure]
  cases c <;> rfl
end
section
variable {P:Program}{η:List Ob}{σ:Sl}{dst:Option Nat}{ty:TypeId}{pos:String}{after:Array Edge}{gd:Option (Nat×Bool)}{t:TypeId}{x y:Operand}
theorem zYT{id k e:Nat}{q:Bool}{kb:Option Nat}{L:List (List UInt8×D)}{a:List UInt8}{zd:D}(hx:oval σ x=.mp id)(ho:η[id]?=some (.mapq q kb (kvs (fun l=>.string ⟨l.toArray⟩) L)))(hy:oval σ y=.d (str a))(ht:zGR P t=some (k,e))(hk:P.underlying k=some .string)(hz:zKH P e=some zd):
  Ylds P η σ ⟨dst,.lookup t x y false,ty,pos,after,gd⟩ (.d ((zES L a).getD zd)):=by
 refine Ylds.same fun g w ac hi h=>?_
 have h1:=h x sO;rw[hx]at h1
 have h2:=h y sO;rw[hy]at h2
 obtain⟨_,b,hb,hv⟩:=h1
 obtain⟨b',v,hb',hr,hd⟩:=zUV (hi.ob id _ ho) ht (zHH hk) hz a false
 rw[hb]at hb';injection hb' with hb';subst hb'
 exact⟨v,by simp only[execOp,hv,RepD.val_eq h2,Sem.run_bind,hr];rfl,hd⟩
end
section
variable {C:Ctx}{ops:Array Oper}{rest:List Oper}{K:Sl->List Ob->Prop}{σ:Sl}{η:List Ob}{d:Nat}{ty:TypeId}{pos:String}{after:Array Edge}{gd:Option (Nat×Bool)}{t:TypeId}{x y z:Operand}
theorem zav{g:Gh}{a:Act}{w:World}(ha:AbsG C g σ η a w)(hd:Nat.blt d C.N=true)(hro:C.ro<=η.length):
  Abs C ((d,.mp η.length)::σ) (η++[.mapq false none []]) (a.put (some d) (.map (some w.heap.size))) (w.alloc (.map #[] 0)) :=
 ha.allocOb _ _ _ _ hd hro fun g' hn hb _ _ hst=>⟨⟨w.heap.size, #[],0,hb,_root_.Go.heap_alloc_new w _,rfl,fun j e p he=>by simp at he,hst,fun _ h=>(by cases h),fun h=>by cases h⟩,by show η.length<g'.n;rw[hn,ha.inv.n];omega,w.heap.size,by rw[<-ha.inv.n];exact hb,rfl⟩
theorem zS5{k e:Nat}(_ht:zGR C.P t=some (k,e))(_hk:C.P.underlying k=some .string)(hd:Nat.blt d C.N=true)(hro:Nat.ble C.ro η.length=true)(h:alex C false ops rest K ((d,.mp η.length)::σ) (η++[.mapq false none (kvs (fun l:List UInt8=>.string ⟨l.toArray⟩) [])])):
  zBJ C false ops ⟨some d,.makeMap t none,ty,pos,after,gd⟩ rest K σ η :=
 zIo (fun _ _ _ ha=>⟨_,_,rfl,zav ha hd (qAM hro)⟩) h
section
variable {κ:Type}[DecidableEq κ]{enc:κ->Value}
omit [DecidableEq κ] in
theorem AbsG.setMapQ{g:Gh}{a:Act}{w:World}(ha:AbsG C g σ η a w){id b:Nat}{q:Bool}{kb:Option Nat}{L L':List (κ×D)}{es':Array MapEntry}(ck:Nat)(ho:η[id]?=some (.mapq q kb (kvs enc L)))(hb:g.blk id=some b)(hro:C.ro<=id)
  (hsz:es'.size=L'.length) (hes:∀(j:Nat) e p,es'[j]?=some e->L'[j]?=some p->e.key=enc p.1/\RepD g.St w e.val p.2) :
  AbsG C g σ (η.set id (.mapq false kb (kvs enc L'))) a { w with heap:=w.heap.setIfInBounds b (.map es' ck) }:=by
 obtain⟨b',es,ck0,h1,h2,h3,h4,h5,h6,_⟩:=ha.inv.ob id _ ho
 rw[hb]at h1;injection h1 with h1;subst h1
 have hbl:=ha.inv.lt id b hb
 refine ha.setObj (qAA.1 ho).1 hb hro h5 rfl rfl rfl sI (fun k hk=>by simp[Array.getElem?_setIfInBounds_ne (fun e=>hk e.symm)]) fun kp=>⟨b,es',ck,hb,by simp[hbl],by rw[zKn];exact hsz,fun j e p he hp=>?_,h5,h6,fun h=>by cases h⟩
 rw[zJK]at hp
 cases hq:L'[j]? with
 |none=>simp[hq]at hp
 |some p0 =>
  simp[hq]at hp;subst hp
  obtain⟨q2,q3⟩:=hes j e p0 he hq
  exact⟨q2,q3.keep kp⟩
theorem zYM{id k e:Nat}{q:Bool}{kb:Option Nat}{L:List (κ×D)}{a:κ}{dv:D}(hx:oval σ x=.mp id)(ho:η[id]?=some (.mapq q kb (kvs enc L)))(hy:oval σ y=.d (.val (enc a)))(hz:Co η (oval σ z) dv)(ht:zGR C.P t=some (k,e))(hk:KeyOk C.P k enc)(hro:Nat.ble C.ro id=true)
  (h:alex C false ops rest K σ (η.set id (.mapq false kb (kvs enc (putK L a dv))))):zBJ C false ops ⟨none,.mapUpdate t x y z,ty,pos,after,gd⟩ rest K σ η:=by
 refine zRP (fun g ac w ha=>?_) h
 have h1:=ha.eval x;rw[hx]at h1
 have h2:=ha.eval y;rw[hy]at h2
 have hzr:=hz.rep ha.inv (ha.eval z)
 obtain⟨_,b,hb,hv⟩:=h1
 obtain⟨b',es,ck,m1,m2,m3,m4,m5,m6⟩:=zPn (ha.inv.ob id _ ho)
 rw[hb]at m1;injection m1 with m1;subst m1
 obtain⟨kind,k1,k2,k3,k4⟩:=hk.ex
 have hck:=MapKept.run_checkKey (w:=w) k1 (k2 a) false 9999
 have m3':es.size=L.length:=by simpa using m3
 rcases zGe k3 a es.toList L 0 m3 m4 with⟨f1,f2⟩|⟨e0,d0,f1,f2,f3⟩
 ·obtain⟨q1,q2,q3⟩:=zJJ f1
  have hset:=ha.setMapQ (L':=L++[(a,dv)]) (es':=es.push { key:=enc a,val:=ac.eval z,born:=ck }) (ck+1) ho hb (qAM hro) (by simp[m3']) (fun j e p he hp=>by
   rw[Array.getElem?_push]at he
   split at he
   ·rename_i hj
    injection he with he;subst he
    rw[hj,m3',qAD (qAN _)]at hp
    simp at hp;subst hp
    exact⟨rfl,hzr⟩
   ·rename_i hj
    have hjl:j<L.length:=by have:=(qAn.1 he).1;omega
    rw[qAG hjl]at hp
    have he':es.toList[j]?=some e:=by simpa using he
    exact⟨m4 j e p he' hp,m5 j e p he' hp⟩)
  refine⟨_,?_,g,by rw[q2];exact hset⟩
  simp only[execOp,hv,RepD.val_eq h2,Sem.run_bind,Instr.mapUpdate,run_underlying (zDs ht),MapKept.run_getObj_map m2,hck,MapKept.run_findKey k1 f2,MapKept.run_setObj_map _ m2,Result.andThen,Sem.run_pure]
 ·obtain⟨q1,q2⟩:=zFi f2
  have hil:idxK L a<L.length:=(qAA.1 q1).1
  have hkey:e0.key=enc a:=m4 _ _ _ f1 q1
  have f1':es[idxK L a]?=some e0:=by simpa using f1
  have hset:=ha.setMapQ (L':=L.set (idxK L a) (a,dv)) (es':=es.modify (idxK L a) fun e=>{ e with key:=enc a,val:=ac.eval z }) ck ho hb (qAM hro) (by simp[m3']) (fun j e p he hp=>by
   rw[Array.getElem?_modify]at he
   rw[qAh]at hp
   split at he
   ·rename_i hj
    subst hj
    rw[if_pos rfl,if_pos hil]at hp
    rw[f1']at he
    simp at he hp;subst he;subst hp
    exact⟨rfl,hzr⟩
   ·rename_i hj
    rw[if_neg hj]at hp
    have he':es.toList[j]?=some e:=by simpa using he
    exact⟨m4 j e p he' hp,m5 j e p he' hp⟩)
  refine⟨_,?_,g,by rw[q2];exact hset⟩
  rw[qAS]at f3
  have hst:(Instr.keyThatStays (((es[idxK L a]?).map (·.key)).getD (enc a)) (enc a)).run C.P w=.ok (enc a) w:=by
   rw[f1'];simp only[qBG,qBE,hkey];exact zN5 (k4 a)
  simp only[execOp,hv,RepD.val_eq h2,Sem.run_bind,Instr.mapUpdate,run_underlying (zDs ht),MapKept.run_getObj_map m2,hck,MapKept.run_findKey k1 f3,hst,MapKept.run_setObj_map _ m2,Result.andThen,Sem.run_pure]
end
theorem zPD{id k e:Nat}{q:Bool}{kb:Option Nat}{L:List (List UInt8×D)}{a:List UInt8}{dv:D}(hx:oval σ x=.mp id)(ho:η[id]?=some (.mapq q kb (kvs (fun l=>.string ⟨l.toArray⟩) L)))(hy:oval σ y=.d (str a))(hz:Co η (oval σ z) dv)(ht:zGR C.P t=some (k,e))(hk:C.P.underlying k=some .string)(hro:Nat.ble C.ro id=true)
  (h:alex C false ops rest K σ (η.set id (.mapq false kb (kvs (fun l:List UInt8=>.string ⟨l.toArray⟩) (putK L a dv))))):zBJ C false ops ⟨none,.mapUpdate t x y z,ty,pos,after,gd⟩ rest K σ η :=
 zYM hx ho hy hz ht (zHH hk) hro h
section
variable {κ:Type}[DecidableEq κ]{enc:κ->Value}
theorem zYN{id k e:Nat}{q:Bool}{kb:Option Nat}{L:List (κ×D)}{a:κ}{ts:Array TypeId}(hx:oval σ x=.mp id)(ho:η[id]?=some (.mapq q kb (kvs enc L)))(hy:oval σ y=.d (.val (enc a)))(hts:ts[0]?=some t)(ht:zGR C.P t=some (k,e))(hk:KeyOk C.P k enc)(hro:Nat.ble C.ro id=true)
  (h:alex C false ops rest K σ (η.set id (.mapq false kb (kvs enc (delK L a))))):zBJ C false ops ⟨none,.call ⟨.builtin .delete, #[x,y],ts⟩,ty,pos,after,gd⟩ rest K σ η:=by
 refine zIo (fun g ac w ha=>?_) h
 have h1:=ha.eval x;rw[hx]at h1
 have h2:=ha.eval y;rw[hy]at h2
 obtain⟨_,b,hb,hv⟩:=h1
 obtain⟨b',es,ck,m1,m2,m3,m4,m5,m6⟩:=zPn (ha.inv.ob id _ ho)
 rw[hb]at m1;injection m1 with m1;subst m1
 obtain⟨kind,k1,k2,k3,k4⟩:=hk.ex
 have hck:=MapKept.run_checkKey (w:=w) k1 (k2 a) es.isEmpty 9999
 have m3':es.size=L.length:=by simpa using m3
 have hrun:∀(r:Option (Nat×Value)),Instr.findNow kind (enc a) es.toList 0=some r->(execOp ac.eval ⟨none,.call ⟨.builtin .delete, #[x,y],ts⟩,ty,pos,after,gd⟩).run C.P w=.ok (.value (.tuple #[])) { w with heap:=w.heap.setIfInBounds b (.map (match r with|some (i,_)=>es.eraseIdxIfInBounds i|none=>es) ck) }:=fun r hr=>by
  cases r with
  |none =>
   simp[execOp,resolve,invoke,builtin,Builtin.delete_,hts,run_underlying (zDs ht),hv,RepD.val_eq h2,MapKept.run_getObj_map m2,hck,MapKept.run_findKey k1 hr,MapKept.run_setObj_map _ m2,Result.andThen]
  |some p =>
   obtain⟨i,v⟩:=p
   simp[execOp,resolve,invoke,builtin,Builtin.delete_,hts,run_underlying (zDs ht),hv,RepD.val_eq h2,MapKept.run_getObj_map m2,hck,MapKept.run_findKey k1 hr,MapKept.run_setObj_map _ m2,Result.andThen]
 rcases zGe k3 a es.toList L 0 m3 m4 with⟨f1,f2⟩|⟨e0,d0,f1,f2,f3⟩
 ·have hset:=ha.setMapQ (L':=delK L a) (es':=es) ck ho hb (qAM hro) (by rw[zLD f1];exact m3') (fun j e p he hp=>by
   rw[zLD f1]at hp
   have he':es.toList[j]?=some e:=by simpa using he
   exact⟨m4 j e p he' hp,m5 j e p he' hp⟩)
  exact⟨_,_,hrun none f2,_,hset⟩
 ·obtain⟨q1,q2⟩:=zFi f2
  have hil:idxK L a<L.length:=(qAA.1 q1).1
  rw[qAS]at f3
  have hil2:idxK L a<es.size:=by omega
  have htl:(es.eraseIdxIfInBounds (idxK L a)).toList=es.toList.eraseIdx (idxK L a):=by
   simp[Array.eraseIdxIfInBounds,hil2]
  have hset:=ha.setMapQ (L':=delK L a) (es':=es.eraseIdxIfInBounds (idxK L a)) ck ho hb (qAM hro) (by rw[<-qAV,htl,zLC f2,List.length_eraseIdx_of_lt hil,List.length_eraseIdx_of_lt (by simpa using hil2),m3]) (fun j e p he hp=>by
   rw[zLC f2,List.getElem?_eraseIdx]at hp
   rw[<-qAz,htl,List.getElem?_eraseIdx]at he
   split at he
   ·rename_i hj
    rw[if_pos hj]at hp
    exact⟨m4 j e p he hp,m5 j e p he hp⟩
   ·rename_i hj
    rw[if_neg hj]at hp
    exact⟨m4 (j+1) e p he hp,m5 (j+1) e p he hp⟩)
  exact⟨_,_,hrun (some _) f3,_,hset⟩
end
theorem zWC{id k e:Nat}{q:Bool}{kb:Option Nat}{L:List (List UInt8×D)}{a:List UInt8}{ts:Array TypeId}(hx:oval σ x=.mp id)(ho:η[id]?=some (.mapq q kb (kvs (fun l=>.string ⟨l.toArray⟩) L)))(hy:oval σ y=.d (str a))(hts:ts[0]?=some t)(ht:zGR C.P t=some (k,e))(hk:C.P.underlying k=some .string)(hro:Nat.ble C.ro id=true)
  (h:alex C false ops rest K σ (η.set id (.mapq false kb (kvs (fun l:List UInt8=>.string ⟨l.toArray⟩) (delK L a))))):zBJ C false ops ⟨none,.call ⟨.builtin .delete, #[x,y],ts⟩,ty,pos,after,gd⟩ rest K σ η :=
 zYN hx ho hy hts ht (zHH hk) hro h
end
end Go.Sx
namespace Go.Sx
open Go.RowKit
def segG(C:Ctx)(l:List Oper)(η:List Ob)(e:Nat)(η':List Ob)(F:SV->SV)(T:Sl->Sl): Nat->List Oper->List SV->Sl->Prop
 |j,o::r,s::ss,σ=>(j=e\/((Wants l.toArray σ o.guard true/\Ylds C.P η σ o s)/\zFA C.N o.dst/\(o.after.toList.all fun ed=>!Region.binds .any ed || !Nat.beq ed.on e)=true/\
   (zEy l.toArray l.length e j=true\/(o.guard=none/\F s=s/\Ylds C.P η' (T σ) o s))))/\segG C l η e η' F T (j+1) r ss (put σ o.dst s)
 |_,_,_,_=>True
theorem zTr{C:Ctx}{l:List Oper}{η:List Ob}{e:Nat}{η':List Ob}{F:SV->SV}{T:Sl->Sl}(hT:∀τ t,get (T τ) t=F (get τ t)): ∀(r:List Oper) (ss:List SV) (j:Nat) (σ:Sl),segG C l η e η' F T j r ss σ->∀(i:Nat) o s,r[i]?=some o->ss[i]?=some s->
  j+i=e\/((Wants l.toArray (pst σ j r ss (fun m=>decide (m<j+i))) o.guard true/\Ylds C.P η (pst σ j r ss (fun m=>decide (m<j+i))) o s)/\zFA C.N o.dst/\(o.after.toList.all fun ed=>!Region.binds .any ed || !Nat.beq ed.on e)=true/\
   (zEy l.toArray l.length e (j+i)=true\/(o.guard=none/\F s=s/\Ylds C.P η' (T (pst σ j r ss (fun m=>decide (m<j+i)))) o s)))
 |_,[],_,_,_,i,o,s,_,hs=>by simp at hs
 |[],_::_,_,_,_,i,o,s,ho,_=>by simp at ho
 |o::r,s::ss,j,σ,h,0,o',s',ho,hs=>by
  simp at ho hs;subst ho;subst hs
  have e0:∀t,get (pst σ j (o::r) (s::ss) (fun m=>decide (m<j+0))) t=get σ t:=by
   intro t
   have:=zCz t (o::r) (s::ss) σ σ j (fun m=>decide (m<j+0)) (fun _=>false) rfl (fun i o' hi hne=>by simp at hne)
   rw[this,zFB]
  rcases h.1 with h1|⟨⟨h1,h2⟩,h3,h4,h5⟩
  ·exact .inl h1
  ·refine .inr ⟨⟨?_,h2.congr fun x _=>zEZ (fun t=>(e0 t)) x⟩,h3,h4,?_⟩
   ·revert h1
    unfold Wants
    cases o.guard with
    |none=>exact id
    |some q =>
     rintro⟨t,h1,h2⟩
     exact⟨t,h1,by rw[e0];exact h2⟩
   ·rcases h5 with h5|⟨h5,h6,h7⟩
    ·exact .inl h5
    ·exact .inr ⟨h5,h6,h7.congr fun x _=>zEZ (fun t=>by rw[hT,hT,e0]) x⟩
 |o::r,s::ss,j,σ,h,i+1,o',s',ho,hs=>by
  have:=zTr hT r ss (j+1) _ h.2 i o' s' (by simpa using ho) (by simpa using hs)
  have hj:j+(i+1)=j+1+i:=by omega
  have hd:decide (j<j+1+i)=true:=by simp;omega
  simp only[pst,hj,hd]
  exact this
theorem zO7{C:Ctx}{Q:Exit->Sl->List Ob->Prop}{σ:Sl}{η:List Ob}{id:Nat}{l:List Oper}(ss:List SV)(e:Nat){oe:Oper}{dE:Nat}{rs:SV}(F:SV->SV)(T:Sl->Sl)(η':List Ob)
  (hm:C.P.follows .mixedOrders=true) (hB:zF1 l=true) (hle:l[e]?=some oe) (hdE:oe.dst=some dE) (hge:oe.guard=none) (hes:Nat.blt e ss.length=true) (hsl:Nat.ble ss.length l.length=true)
  (hbar:ss.length=l.length\/zIx l.toArray (l.length-ss.length-1)=true) (hT:∀τ t,get (T τ) t=F (get τ t)) (hs:segG C l η e η' F T 0 l ss σ)
  (hE:∀τ,(∀t,t∈oe.looksAt l.toArray->get τ t=get (pst σ 0 l ss (fun m=>decide (m<e))) t)->EStep C oe (fun σ' η''=>σ'=(dE,rs)::T τ/\η''=η') τ η)
  (h:alex C true l.toArray (l.drop ss.length) (Q .normal) ((dE,rs)::T (segσ l (ss.map .y) σ)) η'):awp C (.region id l.toArray true) Q σ η:=by
 intro R hR a w ⟨g,hg⟩
 have hes:=Nat.blt_eq.mp hes
 have hsl:=qAM hsl
 have hd0:Abs C σ η a { w with drawn:=w.drawn+1 }:=⟨g,hg.grow ⟨rfl,rfl,rfl,rfl,rfl,rfl,rfl,qAN _,fun _ _=>rfl,fun _ _ h=>h,fun _ _ h=>.inl h,hg.inv.st⟩⟩
 have hsv:(ss.map SegK.y).map SegK.sv=ss:=by rw[qBo];exact List.map_id ss
 have hat:=zTr hT l ss 0 σ hs
 have spec:=zF0 hB
 let I:(Nat->Bool)->Act->World->Prop:=fun f a w=>match f e with
  |true=>Abs C ((dE,rs)::T (pst σ 0 l ss f)) η' a w
  |false=>Abs C (pst σ 0 l ss f) η a w
 refine wp_region_any hm (zQR (C:=C) (K:=Q .normal) (fun σ' η' a w hk hab=>hR _ _ _ _ _ hk hab) hB ss.length hsl hbar I ?_ ?_ _ _ a _ sI ?_ ?_ (fun i _ hi=>?_) ?_)
 ·intro f a w hf hI
  refine⟨_,_,h,?_⟩
  have he:=hf e hes
  simp only[I,he]at hI
  have:=zIR l (ss.map .y) 0 σ f (fun i hi=>by rw[qAS];exact hf i (by simp at hi;omega))
  rw[hsv]at this
  rw[this]at hI;exact hI
 ·intro f j o a w hjm hlj hun hcl hdep hI
  obtain⟨s,hsj⟩:∃s,ss[j]?=some s:=⟨_,qAB hjm⟩
  have same:=zJy (σ:=σ) (ss:=ss) hB hlj hun hcl hdep
  have next:=zJz (σ:=σ) hB hlj hsj hun hcl
  by_cases hje:j=e
  ·
   subst hje
   rw[hle]at hlj;injection hlj with hlj;subst hlj
   simp only[I,hun]at hI
   refine .inl ⟨by unfold Region.wanted;rw[hge],?_⟩
   refine Oper.wp_mono ?_ (hE _ same _ a w hI)
   rintro a' w' ⟨σ',η'',⟨rfl,rfl⟩,hab⟩
   have hbeq:(j==j)=true:=by simp
   simp only[I,hbeq,Bool.true_or]
   refine hab.le fun t=>.inl ?_
   have hn2:=next t
   rw[hdE]at hn2
   simp only[put,zBl]at hn2 ⊢
   by_cases h5:dE=t
   ·rw[if_pos h5,if_pos h5]
   ·rw[if_neg h5]at hn2 ⊢
    rw[if_neg h5,hT,hT,hn2]
  ·
   rcases hat j o s hlj hsj with h0|⟨⟨hw,hy⟩,hdst,hind,hfl⟩
   ·omega
   rw[qAS]at hw hy hfl
   have hne:(e==j)=false:=by simp;omega
   cases he:f e with
   |false =>
    simp only[I,he]at hI
    obtain⟨g,h1⟩:=hI
    have hI':∀a' w',Abs C (put (pst σ 0 l ss f) o.dst s) η a' w'->I (fun i=>i==j||f i) a' w':=fun a' w' hab=>by
     simp only[I,hne,he,Bool.or_false];exact hab.le fun t=>.inl (next t).symm
    refine .inl ⟨hw.wanted (g:=g) (w:=w) fun t q b hgd ht=>by rw[<-same t (zGy hgd ht)];exact h1.rep t,?_⟩
    have hy':Ylds C.P η (pst σ 0 l ss f) o s:=hy.congr fun x hx=>by
     cases x with
     |tmp t=>exact same t (zB2 hx)
     |_=>rfl
    exact hy'.wp hdst hI' h1
   |true =>
    simp only[I,he]at hI
    obtain⟨g,h1⟩:=hI
    have hcl':∀j o,l.toArray[j]?=some o->f j=true->∀e∈o.after,Region.binds .any e=true->f e.on=true:=fun j o ho=>hcl j o (by simpa using ho)
    have hnr:zEy l.toArray l.length e j=false:=by
     cases hr:zEy l.toArray l.length e j with
     |false=>rfl
     |true =>
      have:=zCf hcl' l.length e _ (by simpa using hle) (fun e' hm hb=>hcl _ _ hle he e' hm hb) hr
      rw[hun]at this;cases this
    rcases hfl with h2|⟨h2,h3,h4⟩
    ·rw[hnr]at h2;cases h2
    ·
     have hap:(∀d,o.dst=some d->d≠dE)/\∀t,t∈o.looksAt l.toArray->dE≠t:=by
      rcases qAF j e with hj|hj
      ·rcases(spec e _ hle).2.2 j o hj hlj with⟨ed,hm,hb,hon⟩|hap
       ·have:=hcl _ _ hle he ed hm hb
        rw[hon,hun]at this;cases this
       ·obtain⟨p1,p2,p3⟩:=Oper.apart_spec hap
        exact⟨fun d hd hq=>p2 d hd (by rw[hdE,hq]),fun t ht hq=>p3 dE hdE (by rw[hq];exact ht)⟩
      ·rcases(spec j _ hlj).2.2 e oe oM hle with⟨ed,hm,hb,hon⟩|hap
       ·have:=qAI.1 hind ed (by simpa using hm)
        rw[hb,hon]at this
        simp at this
       ·obtain⟨p1,p2,p3⟩:=Oper.apart_spec hap
        exact⟨fun d hd hq=>p2 dE hdE (by rw[hd,hq]),fun t ht hq=>p1 dE hdE (by rw[hq];exact ht)⟩
     have same':∀t,t∈o.looksAt l.toArray->get ((dE,rs)::T (pst σ 0 l ss f)) t=get (T (pst σ 0 l ss (fun m=>decide (m<j)))) t:=fun t ht=>by
      rw[zBl,if_neg (hap.2 t ht),hT,hT,same t ht]
     refine .inl ⟨by unfold Region.wanted;rw[h2],?_⟩
     have hy':Ylds C.P η' ((dE,rs)::T (pst σ 0 l ss f)) o s:=h4.congr fun x hx=>by
      cases x with
      |tmp t=>exact same' t (zB2 hx)
      |_=>rfl
     refine hy'.wp hdst (fun a' w' hab=>?_) h1
     simp only[I,hne,he,Bool.or_true]
     refine hab.le fun t=>.inl ?_
     have hn2:=next t
     cases hdd:o.dst with
     |none =>
      rw[hdd]at hn2
      simp only[put,zBl]at hn2 ⊢
      split
      ·rfl
      ·rw[hT,hT,hn2]
     |some d =>
      have hne2:d≠dE:=hap.1 d hdd
      rw[hdd]at hn2
      simp only[put,zBl]at hn2 ⊢
      by_cases h5:dE=t
      ·subst h5;rw[if_pos rfl,if_neg hne2,if_pos rfl]
      ·rw[if_neg h5,hT,<-hn2]
       by_cases h6:d=t
       ·rw[if_pos h6,if_pos h6,h3]
       ·rw[if_neg h6,if_neg h6,if_neg h5,hT]
 ·refine qAx (qBO _ _) sI
 ·intro j o hj hl
  have hjl:j<l.length:=(qAA.1 hj).1
  rw[qAQ,qAP (by simpa using hjl)]at hl
  simp at hl
 ·rw[qAQ,qAP pAH]
  simp
 ·have hf0:∀i,i<l.length->(Array.replicate l.toArray.size false).getD i true=false:=fun i hi=>by
   rw[qAQ,qAP pAH];simp
  simp only[I,hf0 _ (qAc hes hsl)]
  refine hd0.le fun t=>.inl ?_
  rw[zCz t l ss σ σ 0 _ (fun _=>false) rfl (fun i o hi hne=>?_),zFB]
  rw[qAS,hf0 i (qAA.1 hi).1]at hne
  exact absurd rfl hne
theorem EStep.of{C:Ctx}{ops:Array Oper}{o:Oper}{J:Sl->List Ob->Prop}{σ:Sl}{η:List Ob}(h:zBJ C false ops o [] J σ η): EStep C o J σ η:=fun Q a w hab=>by
 have:=h (fun e a w=>match e with | .normal=>∃σ' η',J σ' η'/\Abs C σ' η' a w|e=>Q e a w) (fun σ' η' a w hk hab=>⟨σ',η',hk,hab⟩) a w hab (fun a w=>∃σ' η',J σ' η'/\Abs C σ' η' a w) (fun a w hw=>hw)
 exact zQS (fun e a w hne hq=>by cases e <;> first|exact absurd rfl hne|exact hq) this
theorem zO6{C:Ctx}{Q:Exit->Sl->List Ob->Prop}{σ:Sl}{η:List Ob}{id:Nat}{l:List Oper}(ss:List SV)(e:Nat){fn:FuncId}{args:List Operand}{ts:Array TypeId}{dE:Nat}{ty:TypeId}{pos:String}{after:Array Edge}{as:List SV}{pre post:List Ob}{res:SV}(ids:List Nat)
  (hm:C.P.follows .mixedOrders=true) (hB:zF1 l=true) (hle:l[e]?=some ⟨some dE,.call ⟨.value (.func fn),args.toArray,ts⟩,ty,pos,after,none⟩) (hes:Nat.blt e ss.length=true) (hsl:Nat.ble ss.length l.length=true)
  (hbar:ss.length=l.length\/zIx l.toArray (l.length-ss.length-1)=true)
  (hs:segG C l η e (zEX (zFC (zCF ids pre) ids η) ids (post.map (Ob.ren ids))) (SV.wipe (zCF ids pre) ids) (zGo (zCF ids pre) ids) 0 l ss σ)
  (hb:zAQ C.P fn=true) (hc:zBR C.P fn as pre res post) (ha:SArgs (pst σ 0 l ss (fun m=>decide (m<e))) ids args as) (hp:Picks η ids pre) (hd:Nat.blt dE C.N=true)
  (hn:ids.Nodup) (hlen:ids.length=pre.length) (hu:zEr pre=true) (hbl:pre.all (Ob.below pre.length)=true) (hba:as.all (SV.bel pre.length)=true) (hk:zEw pre post=true) (hro:ids.all (fun i=>Nat.ble C.ro i)=true)
  (h:alex C true l.toArray (l.drop ss.length) (Q .normal) ((dE,res.ren ids)::zGo (zCF ids pre) ids (segσ l (ss.map .y) σ)) (zEX (zFC (zCF ids pre) ids η) ids (post.map (Ob.ren ids)))):awp C (.region id l.toArray true) Q σ η:=by
 refine zO7 ss e (SV.wipe (zCF ids pre) ids) (zGo (zCF ids pre) ids) _ hm hB hle rfl rfl hes hsl hbar (zM0 _ _) hs (fun τ hτ=>?_) h
 refine EStep.of (ops:=#[]) (zEt ids hb hc (ha.congr fun x hx=>?_) hp hd hn hlen hu hbl hba hk hro (zAD ⟨rfl,rfl⟩))
 cases x with
 |tmp t=>exact hτ t (zB2 (by simp[Op.operands,Call.operands,hx]))
 |_=>rfl
theorem zVy{C:Ctx}{Q:Exit->Sl->List Ob->Prop}{σ:Sl}{η:List Ob}{rid:Nat}{l:List Oper}(ss:List SV)(i:Nat){x y:Operand}{t:TypeId}{d:Nat}{ty:TypeId}{pos:String}{after:Array Edge}(id:Nat){n m e sz by':Nat}{mu:Bool}{xs ys:List D}
  (hmx:C.P.follows .mixedOrders=true) (hB:zF1 l=true) (hle:l[i]?=some ⟨some d,.call ⟨.builtin .append, #[x,y], #[t,t]⟩,ty,pos,after,none⟩) (hes:Nat.blt i ss.length=true) (hsl:Nat.ble ss.length l.length=true)
  (hbar:ss.length=l.length\/zIx l.toArray (l.length-ss.length-1)=true)
  (hs:segG C l η i ((zFR id η).set id (.buf mu e sz (xs++ys))) (SV.kill id) (zLW id) 0 l ss σ)
  (hx:oval (pst σ 0 l ss (fun m=>decide (m<i))) x=.buf id n) (ho:η[id]?=some (.buf mu e sz xs)) (hy:oval (pst σ 0 l ss (fun m=>decide (m<i))) y=.d (.slice ys)) (hn:n=xs.length) (hm:m=ys.length)
  (he:zCB C.P t=some e) (hsz:zBU C.P t=some sz) (hz:zDf C.P e=some sz) (hb:zDZ C.P t=some by') (hd:Nat.blt d C.N=true) (hro:Nat.ble C.ro id=true) (hf:∀d∈ys,d.flat.length=sz) (hlen:(n+m)*by'<=140737488355328/\n+m<=140737488355328)
  (h:alex C true l.toArray (l.drop ss.length) (Q .normal) ((d,.buf id (n+m))::zLW id (segσ l (ss.map .y) σ)) ((zFR id η).set id (.buf mu e sz (xs++ys)))):awp C (.region rid l.toArray true) Q σ η:=by
 refine zO7 ss i (SV.kill id) (zLW id) _ hmx hB hle rfl rfl hes hsl hbar (zIn id) hs (fun τ hτ=>?_) h
 have op:∀z,z=x\/z=y->oval τ z=oval (pst σ 0 l ss (fun m=>decide (m<i))) z:=fun z hz=>by
  cases z with
  |tmp t=>exact hτ t (zB2 (by simp[Op.operands,Call.operands];rcases hz with h|h <;> simp[h]))
  |_=>rfl
 exact EStep.of (ops:=#[]) (aApp (id:=id) ((op x (.inl rfl)).trans hx) ho (zAr ((op y (.inr rfl)).trans hy)) hn hm he hsz hz hb hd hro hf hlen (zAD ⟨rfl,rfl⟩))
section
variable {P:Program}{η:List Ob}{σ:Sl}{dst:Option Nat}{ty:TypeId}{pos:String}{after:Array Edge}{gd:Option (Nat×Bool)}{t:TypeId}{x y z:Operand}
theorem zay{sz n:Nat}{k k':IntKind}{xs:List D}(hc:Co η (oval σ x) (.slice xs))(hs:zBU P t=some sz)(hhi:oval σ y=.d (.val (.int k (n:Int))))(hmx:oval σ z=.d (.val (.int k' (n:Int))))(hn:n=xs.length)(hf:∀d∈xs,d.flat.length=sz):
  Ylds P η σ ⟨dst,.slice t x none (some y) (some z),ty,pos,after,gd⟩ (.d (.tsl xs)):=by
 obtain⟨e,i,hu,hi',hsz⟩:=zB4 hs
 refine Ylds.same fun g w a hi h=>?_
 have hr:=hc.rep hi (h x sO)
 have hy:=h y sO;rw[hhi]at hy
 have hz:=h z sO;rw[hmx]at hz
 obtain⟨sa,cap,us,hv,hcp,hm,hul,h1,hcell,hr'⟩:=hr.open_slice hf
 subst hn
 refine⟨.slice sa xs.length xs.length,?_,.tsl sa xs.length xs (.slice sa xs.length xs.length sz xs us rfl (qAN _) oM hf (by rw[hul,zCQ hf]) h1 hcell hr')⟩
 simp only[execOp,hv,RepD.val_eq hy,RepD.val_eq hz,Sem.run_bind,Sem.run_pure,Option.map_none,qBG]
 have e1:(Instr.sliceAt t (.slice sa xs.length cap) none (some (Value.int k (xs.length:Int))) (some (Value.int k' (xs.length:Int)))).run P w=.ok (.slice sa xs.length xs.length) w:=by
  simp[Instr.sliceAt,Instr.slice,Instr.sliceBounds,Instr.sliceBound,run_underlying hu,sizeOf,typeInfo,hi',asIntOf,hcp,Int.ofNat_le]
  intro h
  cases sa with
  |none=>rfl
  |some ad=>simp[Addr.add_zero']
 rw[e1];rfl
theorem zDM{yt:TypeId}{a b:List UInt8}(hx:oval σ x=.d (str a))(hy:oval σ y=.d (str b))(h:a=b): Ylds P η σ ⟨dst,.binOp .eql t x y yt,ty,pos,after,gd⟩ (.d (.val (.bool true))):=by
 have:=zHt (P:=P) (η:=η) (dst:=dst) (ty:=ty) (pos:=pos) (after:=after) (gd:=gd) (t:=t) (yt:=yt) hx hy;rwa [decide_eq_true h]at this
theorem zDV{yt:TypeId}{a b:List UInt8}(hx:oval σ x=.d (str a))(hy:oval σ y=.d (str b))(h:¬a=b): Ylds P η σ ⟨dst,.binOp .eql t x y yt,ty,pos,after,gd⟩ (.d (.val (.bool false))):=by
 have:=zHt (P:=P) (η:=η) (dst:=dst) (ty:=ty) (pos:=pos) (after:=after) (gd:=gd) (t:=t) (yt:=yt) hx hy;rwa [decide_eq_false h]at this
theorem zRt{e sz by':Nat}{xs ys:List D}(hx:oval σ x=.d (.tsl xs))(hy:Co η (oval σ y) (.slice ys))(h0:Nat.blt 0 ys.length=true)
  (he:zCB P t=some e) (hs:zBU P t=some sz) (hz:zDf P e=some sz) (hb:zDZ P t=some by') (hfx:∀d∈xs,d.flat.length=sz) (hf:∀d∈ys,d.flat.length=sz) (hlen:(xs.length+ys.length)*by'<=140737488355328/\xs.length+ys.length<=140737488355328) :
  Ylds P η σ ⟨dst,.call ⟨.builtin .append, #[x,y], #[t,t]⟩,ty,pos,after,gd⟩ (.d (.slice (xs++ys))):=by
 have h0:0<ys.length:=by simpa using h0
 obtain⟨e',i,hu,hi',hsz⟩:=zB4 hs
 have:e'=e:=by have:=zCw he;rw[hu]at this;injection this with this;injection this
 subst this
 have hby:i.bytes=by':=by
  obtain⟨e2,i2,h1,h2,h3⟩:=zGL hb
  rw[hu]at h1;injection h1 with h1;injection h1 with h1;subst h1
  rw[hi']at h2;injection h2 with h2;subst h2;exact h3
 obtain⟨zv,hzz,hzs⟩:=zHE hi' hz
 intro g w a hi h
 have hxr:=h x pAG;rw[hx]at hxr
 obtain⟨sa,hxv,hxr⟩:∃sa,a.eval x=.slice sa xs.length xs.length/\RepD g.St w (.slice sa xs.length xs.length) (.slice xs):=by
  change RepD _ _ _ _ at hxr
  generalize a.eval x=v at hxr
  cases hxr with
  |tsl sa n xs h =>
   have:n=xs.length:=by cases h;assumption
   subst this;exact⟨sa,rfl,h⟩
 obtain⟨sa',cap',olds,hv',_,_,hol,ho1,hocell,horep⟩:=hxr.open_slice hfx
 injection hv' with hv1 hv2 hv3;subst hv1;subst hv3
 have hyr:=(hy.rep hi (h y pAG)).open_slice hf
 obtain⟨ya,yc,news,hyv,_,_,hnl,hn1,hncell,hnrep⟩:=hyr
 obtain⟨ad,rfl,hnc⟩:=hncell h0
 have hsrc:Src P i.size t (.slice (some ad) ys.length yc) ys.length news w:=Src.ofSlice w hu ad ys.length yc news (by rw[hnl,hsz]) (fun j u hj=>(hnc j u hj).2) hn1
 have hold:(Builtin.firstCells i.size xs.length (.slice sa xs.length xs.length)).run P w.drew=.ok olds.toArray w.drew:=by
  rcases Nat.eq_zero_or_pos xs.length with hz0|hz0
  ·have hon:olds=[]:=qAf (by rw[hol,hz0];simp)
   rw[hz0,hon]
   cases sa with
   |none=>exact run_firstCells_none w.drew i.size 0 0 0
   |some b=>exact run_firstCells_some w.drew i.size 0 b 0 0 [] sI (fun j u hj=>by simp at hj)
  ·obtain⟨b,rfl,hbc⟩:=hocell hz0
   exact run_firstCells_some w.drew i.size xs.length b xs.length xs.length olds (by rw[hol,hsz]) (fun j u hj=>by simpa using(hbc j u hj).2)
 have hfit:Builtin.nextslicecap (xs.length+ys.length) xs.length*i.bytes<=281474976710656:=growslice_fits oM (by rw[hby];exact hlen.1)
 have hrun:=run_append_grow_src (P:=P) w t t ty e' i zv hu hi' hzz sa xs.length xs.length olds hold _ _ _ hsrc oM oM hfit
 generalize hcells:(olds++news).toArray++Builtin.zeroCells zv.cells (grownCap w (xs.length+ys.length) xs.length e'-(xs.length+ys.length))=us' at hrun
 have hge:=grownCap_ge w (xs.length+ys.length) xs.length e'
 have hcm:=grownCap_le_maxLen w (xs.length+ys.length) xs.length e' (by simp only[maxLen];omega)
 have hat:∀j,j<(xs.length+ys.length)*sz->us'[j]?=(olds++news)[j]?:=fun j hj=>by
  rw[<-hcells,qAl (by simp only[qBN,qAH,hol,hnl];rw[<-qA8];exact hj)];simp
 have hcell:∀(j:Nat) (u:Value),(olds++news)[j]?=some u->(w.drew.alloc (.cells us' e')).cell? ⟨w.heap.size,j,none⟩=some u:=fun j u hj=>by
  have hjl:=(qAA.1 hj).1
  rw[qAH,hol,hnl,<-qA8]at hjl
  rw[cell_of_row _ w.heap.size j us' e' (0,0) (_root_.Go.heap_alloc_new w.drew _),hat j hjl];exact hj
 let g':Gh:={ g with St:=fun b o=>g.St b o\/(b=w.heap.size/\o<(xs.length+ys.length)*sz) }
 have hh:∀k,k<w.heap.size->(w.drew.alloc (.cells us' e')).heap[k]?=w.heap[k]?:=fun k hk=>Below.heap_alloc w.drew _ k hk
 have kp:Keep g.St w g'.St (w.drew.alloc (.cells us' e')):=⟨fun _ _ h=>.inl h,fun b o u hb hc=>(World.cell?_of_block (w:=w) (a:=⟨b,o,none⟩) (hh b (hi.st b o hb))).trans hc,fun b hb=>hh b (hi.st b 0 (hb 0))⟩
 refine .inl ⟨.slice (some ⟨w.heap.size,0,none⟩) (xs.length+ys.length) (grownCap w (xs.length+ys.length) xs.length e'),g',w.drew.alloc (.cells us' e'),?_,⟨rfl,rfl,rfl,rfl,rfl,rfl,rfl,by simp,hh,fun _ _ h=>.inl h,fun b o hb=>hb.imp_right fun h=>by rw[h.1];exact qAN _,fun b o hb=>?_⟩,?_⟩
 ·simp only[execOp,resolve,invoke,builtin,Sem.run_bind,Sem.run_pure,Result.andThen_ok,qA4,qA1,List.map_nil,hxv,hyv,hrun]
 ·rcases hb with hb|⟨rfl,_⟩
  ·exact qAc (hi.st b o hb) sI
  ·simp
 ·refine .slice _ _ _ sz _ (olds++news) (by rw[qAH]) hge hcm (fun d hd=>?_) (by rw[zD4,qAH,qAH,zCQ hfx,zCQ hf,hol,hnl]) (fun u hm=>?_) (fun _=>⟨_,rfl,fun j u hj=>⟨?_,?_⟩⟩) (fun j u d hj hd=>?_)
  ·rcases qAm.1 hd with h|h
   ·exact hfx d h
   ·exact hf d h
  ·rcases qAm.1 hm with h|h
   ·exact ho1 u h
   ·exact hn1 u h
  ·have hjl:=(qAA.1 hj).1
   rw[qAH,hol,hnl,<-qA8]at hjl
   exact .inr ⟨rfl,by simpa using hjl⟩
  ·rw[Addr.add_lit,qAS];exact hcell j u hj
  ·rw[zD4]at hd
   refine RepD.keep kp ?_
   rcases qAF j olds.length with h1|h1
   ·rw[qAG h1]at hj
    rw[qAG (by rw[zCQ hfx,<-hol];exact h1)]at hd
    exact horep j u d hj hd
   ·rw[qAD h1]at hj
    rw[qAD (by rw[zCQ hfx,<-hol];exact h1)]at hd
    rw[zCQ hfx,<-hol]at hd
    exact hnrep _ u d hj hd
end
def lowC(l:List Oper)(es:List Nat)(j:Nat): Nat:=(es.filter fun e=>zEy l.toArray l.length j e).length
def zJh(l:List Oper): List Nat->Bool
 |[]=>true
 |e::r=>(r.all fun k=>Nat.blt e k&&zEy l.toArray l.length k e)&&zJh l r
def idxC: List Nat->Nat->Option Nat
 |[],_=>none
 |e::r,j=>match Nat.beq e j with
  |true=>some 0
  |false=>(idxC r j).map (· + 1)
def YAll(C:Ctx)(σ:Sl)(o:Oper)(s:SV): List (List Ob)->Prop
 |[]=>True
 |η::r=>Ylds C.P η σ o s/\YAll C σ o s r
theorem YAll.get{C:Ctx}{σ:Sl}{o:Oper}{s:SV}: ∀{L:List (List Ob)},YAll C σ o s L->∀(i:Nat) (η:List Ob),L[i]?=some η->Ylds C.P η σ o s
 |_::_,h,0,η,hi=>by simp at hi;subst hi;exact h.1
 |_::_,h,i+1,η,hi=>YAll.get h.2 i η pAH
 |[],_,i,η,hi=>by simp at hi
theorem zKt: ∀(es:List Nat) (j i:Nat),idxC es j=some i->es[i]?=some j
 |e::r,j,i,h=>by
  unfold idxC at h
  split at h
  ·rename_i he;injection h with h;subst h;rw[qAX he];rfl
  ·cases hq:idxC r j with
   |none=>rw[hq]at h;cases h
   |some k =>
    rw[hq]at h;injection h with h;subst h
    exact(List.getElem?_cons_succ).trans (zKt r j k hq)
 |[],_,_,h=>by cases h
theorem zKu: ∀{es:List Nat} {j:Nat},idxC es j=none->j∉es
 |e::r,j,h=>by
  unfold idxC at h
  split at h
  ·cases h
  ·rename_i he
   cases hq:idxC r j with
   |none =>
    intro hm
    rcases qAq.1 hm with hm|hm
    ·subst hm;simp at he
    ·exact zKu hq hm
   |some k=>rw[hq]at h;cases h
 |[],_,_=>by simp
theorem zF3{l:List Oper}: ∀{es:List Nat},zJh l es=true->∀(a b:Nat) x y,a<b->es[a]?=some x->es[b]?=some y->x<y/\zEy l.toArray l.length y x=true
 |e::r,h,0,b+1,x,y,_,hx,hy=>by
  simp only[zJh,qAR]at h
  simp at hx;subst hx
  have:=qAI.1 h.1 y (qAC (by simpa using hy))
  simp only[qAR]at this
  exact⟨by simpa using this.1,this.2⟩
 |e::r,h,a+1,b+1,x,y,hab,hx,hy=>by
  simp only[zJh,qAR]at h
  exact zF3 h.2 a b x y oM (by simpa using hx) (by simpa using hy)
 |_,_,_,0,_,_,hab,_,_=>by omega
 |[],_,_,_+1,_,_,_,hx,_=>by simp at hx
def cntC(es:List Nat)(f:Nat->Bool): Nat:=(es.filter f).length
theorem zRf{es:List Nat}{f:Nat->Bool}{j i:Nat}(hnd:es.Nodup)(hj:es[i]?=some j)(hf:f j=false): cntC es (fun k=>k==j||f k)=cntC es f+1:=by
 unfold cntC
 induction es generalizing i with
 |nil=>simp at hj
 |cons e r ih =>
  rw[List.nodup_cons]at hnd
  cases i with
  |zero =>
   simp at hj;subst hj
   have e1:r.filter (fun k=>k==e||f k)=r.filter f:=List.filter_congr fun k hk=>by
    have:(k==e)=false:=by simp;intro h;subst h;exact hnd.1 hk
    rw[this,qBJ]
   rw[qBh,qBh,hf]
   simp[e1]
  |succ i =>
   have hm:j∈r:=qAC pAK
   have hne:(e==j)=false:=by simp;intro h;subst h;exact hnd.1 hm
   have:=ih hnd.2 pAK
   rw[qBh,qBh,hne,qBJ]
   split
   ·simp only[qAK];omega
   ·exact this
theorem zRg{es:List Nat}{f:Nat->Bool}{j:Nat}(hj:j∉es): cntC es (fun k=>k==j||f k)=cntC es f:=by
 unfold cntC
 congr 1
 refine List.filter_congr fun k hk=>?_
 have:(k==j)=false:=by simp;intro h;subst h;exact hj hk
 rw[this,qBJ]
theorem zNM{es:List Nat}{f g:Nat->Bool}(h:∀k∈es,f k=true->g k=true): cntC es f<=cntC es g:=by
 unfold cntC
 induction es with
 |nil=>simp
 |cons e r ih =>
  have:=ih fun k hk=>h k (qAk _ hk)
  rw[qBh,qBh]
  split
  ·rename_i he
   rw[if_pos (h e qAt he)];simpa using this
  ·split
   ·simp only[qAK];omega
   ·exact this
theorem zP9{f:Nat->Bool}: ∀{es:List Nat} {i:Nat},(∀(a:Nat) x,es[a]?=some x->f x=decide (a<i))->i<=es.length->cntC es f=i
 |[],i,_,hi=>by simp at hi;subst hi;rfl
 |e::r,0,h,_=>by
  unfold cntC
  have:(e::r).filter f=[]:=List.filter_eq_nil_iff.2 fun x hx=>by
   obtain⟨a,ha⟩:=qBA.1 hx
   rw[h a x ha];simp
  rw[this];rfl
 |e::r,i+1,h,hi=>by
  have:=zP9 (f:=f) (es:=r) (i:=i) (fun a x ha=>by rw[h (a+1) x (by simpa using ha)];simp) pAH
  unfold cntC at this ⊢
  rw[qBh,h 0 e rfl]
  simp[this]
def zDF(P:Program)(rs:Array ResultVar)(res:D)(post:List Ob): Exit->Sl->List Ob->Prop
 | .ret,σ,η=>ResC P rs σ η res/\Fits [] post σ η
 | .normal,σ,η=>ResC P rs σ η res/\Fits [] post σ η
 |_,_,_=>False
section
variable {C:Ctx}{ops:Array Oper}{rest:List Oper}{K:Sl->List Ob->Prop}{σ:Sl}{η:List Ob}{d:Nat}{ty:TypeId}{pos:String}{after:Array Edge}{gd:Option (Nat×Bool)}{t:TypeId}{x y:Operand}
end
section
variable {C:Ctx}{l:List Oper}{es:List Nat}{ηs:List (List Ob)}{j:Nat}{r:List Oper}{s:SV}{ss:List SV}{σ:Sl}{ids:List Nat}
theorem zBC{o:Oper}: YAll C σ o s []:=trivial
theorem zAk{o:Oper}{η:List Ob}{L:List (List Ob)}(h:Ylds C.P η σ o s)(hr:YAll C σ o s L): YAll C σ o s (η::L):=⟨h,hr⟩
end
section
variable {P:Program}{η:List Ob}{σ:Sl}{dst:Option Nat}{ty:TypeId}{pos:String}{after:Array Edge}{gd:Option (Nat×Bool)}{t:TypeId}{x y z:Operand}
end
section
variable {C:Ctx}{ops:Array Oper}{rest:List Oper}{K:Sl->List Ob->Prop}{σ:Sl}{η:List Ob}{d:Nat}{ty:TypeId}{pos:String}{after:Array Edge}{gd:Option (Nat×Bool)}{t:TypeId}{x y:Operand}
end
section
variable {C:Ctx}{ops:Array Oper}{rest:List Oper}{K:Sl->List Ob->Prop}{σ:Sl}{η:List Ob}
end
end Go.Sx
namespace Go.Sx
section
variable {C:Ctx}{σ:Sl}{η:List Ob}
end
open Go.RowKit
section
variable {C:Ctx}{ops:Array Oper}{rest:List Oper}{K:Sl->List Ob->Prop}{σ:Sl}{η:List Ob}{d:Nat}{ty:TypeId}{pos:String}{after:Array Edge}{gd:Option (Nat×Bool)}{t:TypeId}{x y:Operand}
end
section
variable {P:Program}{η:List Ob}{σ:Sl}{dst:Option Nat}{ty:TypeId}{pos:String}{after:Array Edge}{gd:Option (Nat×Bool)}{t:TypeId}{x y z:Operand}
end
section
variable {P:Program}{η:List Ob}{σ:Sl}{dst:Option Nat}{ty:TypeId}{pos:String}{after:Array Edge}{gd:Option (Nat×Bool)}{t yt:TypeId}{x y:Operand}
end

section
variable {C:Ctx}{ops:Array Oper}{rest:List Oper}{K:Sl->List Ob->Prop}{σ:Sl}{η:List Ob}{d:Nat}{ty:TypeId}{pos:String}{after:Array Edge}{gd:Option (Nat×Bool)}{t:TypeId}{x y:Operand}
end
end Go.Sx
namespace Go.Sx
def zDB(C:Ctx): List Code->(Sl->List Ob->Prop)->(Exit->Sl->List Ob->Prop)->Sl->List Ob->Prop
 |[],K,_,σ,η=>K σ η
 |p::ps,K,Q,σ,η=>awp C p (zBb (zDB C ps K Q) Q) σ η
open Go.RowKit
def rowP(o:Option Nat)(n:Nat)(v:Value): Prop:=∃b,o=some b/\v=.slice (some ⟨b,0,none⟩) n n
section
variable {P:Program}{η:List Ob}{σ:Sl}{dst:Option Nat}{ty:TypeId}{pos:String}{after:Array Edge}{gd:Option (Nat×Bool)}{t yt:TypeId}{x y:Operand}
end
section
variable {C:Ctx}{ops:Array Oper}{rest:List Oper}{K:Sl->List Ob->Prop}{σ:Sl}{η:List Ob}{d:Nat}{ty:TypeId}{pos:String}{after:Array Edge}{gd:Option (Nat×Bool)}{t:TypeId}{x y:Operand}
def zDN(P:Program)(f:FuncId)(as:List SV)(j n:Nat)(pre:List Ob)(res:SV)(post:List Ob): Prop :=
 ∀(g:Gh) (w:World) (vs:List Value),Inv g w pre->RepSs g w vs (as++[.p (rowP (g.blk j) n)])->
  Calls P f vs.toArray w (fun e w'=>∃v g',e=.returned v/\Inv g' w' post/\RepS g' w' v res/\Frame g w pre g' w')
end
def upC(l:List Oper)(es:List Nat)(j:Nat): Nat:=(es.filter fun e=>!zEy l.toArray l.length e j).length
def zLn(C:Ctx)(l:List Oper)(es:List Nat)(ηs:List (List Ob))(j:Nat)(o:Oper)(s:SV)(σ:Sl): Prop:=match idxC es j with
 |some i=>∀τ,(∀t,t∈o.looksAt l.toArray->get τ t=get σ t)->EStep C o (fun σ' η'=>σ'=put τ o.dst s/\η'=ηs.getD (i+1) []) τ (ηs.getD i [])
 |none=>YAll C σ o s ((ηs.take (upC l es j+1)).drop (lowC l es j))
def segS(C:Ctx)(l:List Oper)(es:List Nat)(ηs:List (List Ob)): Nat->List Oper->List SV->Sl->Prop
 |j,o::r,s::ss,σ=>(o.guard=none/\zFA C.N o.dst/\zLn C l es ηs j o s σ)/\segS C l es ηs (j+1) r ss (put σ o.dst s)
 |_,_,_,_=>True
theorem zTm{C:Ctx}{l:List Oper}{es:List Nat}{ηs:List (List Ob)}: ∀(r:List Oper) (ss:List SV) (j:Nat) (σ:Sl),segS C l es ηs j r ss σ->∀(i:Nat) o s,r[i]?=some o->ss[i]?=some s->
  o.guard=none/\zFA C.N o.dst/\match idxC es (j+i)with
   |some k=>∀τ,(∀t,t∈o.looksAt l.toArray->get τ t=get (pst σ j r ss (fun m=>decide (m<j+i))) t)->EStep C o (fun σ' η'=>σ'=put τ o.dst s/\η'=ηs.getD (k+1) []) τ (ηs.getD k [])
   |none=>∀(q:Nat) (η:List Ob),lowC l es (j+i)<=q->q<=upC l es (j+i)->ηs[q]?=some η->∀τ,(∀x∈o.op.operands,oval τ x=oval (pst σ j r ss (fun m=>decide (m<j+i))) x)->Ylds C.P η τ o s
 |_,[],_,_,_,i,o,s,_,hs=>by simp at hs
 |[],_::_,_,_,_,i,o,s,ho,_=>by simp at ho
 |o::r,s::ss,j,σ,h,0,o',s',ho,hs=>by
  simp at ho hs;subst ho;subst hs
  have e0:∀t,get (pst σ j (o::r) (s::ss) (fun m=>decide (m<j+0))) t=get σ t:=by
   intro t
   have:=zCz t (o::r) (s::ss) σ σ j (fun m=>decide (m<j+0)) (fun _=>false) rfl (fun i o' hi hne=>by simp at hne)
   rw[this,zFB]
  obtain⟨⟨h1,h2,h4⟩,_⟩:=h
  refine⟨h1,h2,?_⟩
  unfold zLn at h4
  rw[qBI]at *
  split
  ·rename_i k hk
   rw[hk]at h4
   exact fun τ hτ=>h4 τ fun t ht=>by rw[hτ t ht,e0]
  ·rename_i hk
   rw[hk]at h4
   intro q η hq hq2 hη τ hτ
   refine(h4.get (q-lowC l es j) η ?_).congr fun x hx=>(hτ x hx).trans (zEZ (fun t=>by rw[e0]) x)
   rw[qBC,Nat.add_sub_cancel' hq,qAd,if_pos oM];exact hη
 |o::r,s::ss,j,σ,h,i+1,o',s',ho,hs=>by
  have:=zTm r ss (j+1) _ h.2 i o' s' (by simpa using ho) (by simpa using hs)
  have hj:j+(i+1)=j+1+i:=by omega
  have hd:decide (j<j+1+i)=true:=by simp;omega
  simp only[pst,hj,hd]
  exact this
theorem zFK{C:Ctx}{Q:Exit->Sl->List Ob->Prop}{σ:Sl}{η:List Ob}{id:Nat}{l:List Oper}(ss:List SV)(es:List Nat)(ηs:List (List Ob))
  (hm:C.P.follows .mixedOrders=true) (hB:zF1 l=true) (hsl:Nat.ble ss.length l.length=true) (hbar:ss.length=l.length\/zIx l.toArray (l.length-ss.length-1)=true) (hes:(es.all fun e=>Nat.blt e ss.length)=true) (hch:zJh l es=true)
  (hη:Nat.beq ηs.length (es.length+1)=true) (h0:ηs.getD 0 []=η)
  (hs:segS C l es ηs 0 l ss σ) (h:alex C true l.toArray (l.drop ss.length) (Q .normal) (segσ l (ss.map .y) σ) (ηs.getD es.length [])):awp C (.region id l.toArray true) Q σ η:=by
 intro R hR a w ⟨g,hg⟩
 have hsl:=qAM hsl
 have hη:=qAX hη
 have hd0:Abs C σ η a { w with drawn:=w.drawn+1 }:=⟨g,hg.grow ⟨rfl,rfl,rfl,rfl,rfl,rfl,rfl,qAN _,fun _ _=>rfl,fun _ _ h=>h,fun _ _ h=>.inl h,hg.inv.st⟩⟩
 have hsv:(ss.map SegK.y).map SegK.sv=ss:=by rw[qBo];exact List.map_id ss
 have hat:=zTm l ss 0 σ hs
 have hnd:es.Nodup:=by
  rw[List.nodup_iff_pairwise_ne,List.pairwise_iff_getElem]
  intro i j hi hj hij
  have:=(zF3 hch i j _ _ hij (qAB hi) (qAB hj)).1
  omega
 let I:(Nat->Bool)->Act->World->Prop:=fun f a w=>Abs C (pst σ 0 l ss f) (ηs.getD (cntC es f) []) a w
 refine wp_region_any hm (zQR (C:=C) (K:=Q .normal) (fun σ' η' a w hk hab=>hR _ _ _ _ _ hk hab) hB ss.length hsl hbar I ?_ ?_ _ _ a _ sI ?_ ?_ (fun i _ hi=>?_) ?_)
 ·intro f a w hf hI
  refine⟨_,_,h,?_⟩
  have hc:cntC es f=es.length:=by
   unfold cntC
   rw[List.filter_eq_self.2 fun e he=>hf e (by have:=qAI.1 hes e he;simpa using this)]
  simp only[I,hc]at hI
  have:=zIR l (ss.map .y) 0 σ f (fun i hi=>by rw[qAS];exact hf i pAH)
  rw[hsv]at this
  rw[this]at hI;exact hI
 ·intro f j o a w hjm hlj hun hcl hdep hI
  obtain⟨s,hsj⟩:∃s,ss[j]?=some s:=⟨_,qAB hjm⟩
  have same:=zJy (σ:=σ) (ss:=ss) hB hlj hun hcl hdep
  have next:=zJz (σ:=σ) hB hlj hsj hun hcl
  obtain⟨hgd,hdst,hop⟩:=hat j o s hlj hsj
  rw[qAS]at hop
  have hcl':∀j o,l.toArray[j]?=some o->f j=true->∀e∈o.after,Region.binds .any e=true->f e.on=true:=fun j o ho=>hcl j o (by simpa using ho)
  have hreach:∀e,zEy l.toArray l.length j e=true->f e=true:=fun e hr=>zCf hcl' l.length j o (by simpa using hlj) hdep hr
  simp only[I]at hI
  split at hop
  ·
   rename_i i hi
   have hei:=zKt es j _ hi
   have hE:=hop
   have hcnt:cntC es f=i:=zP9 (fun b x hb=>by
    rcases qBS b i with hlt|heq|hgt
    ·rw[hreach x (zF3 hch b i x j hlt hb hei).2];exact(decide_eq_true hlt).symm
    ·subst heq;rw[hb]at hei;injection hei with hei;subst hei;rw[hun];simp
    ·have hr:=(zF3 hch i b j x hgt hei hb).2
     cases hfx:f x with
     |false=>exact(decide_eq_false oM).symm
     |true =>
      exfalso
      have hxl:∃ox,l[x]?=some ox:=by
       have hxs:x<ss.length:=by have:=qAI.1 hes x (qAC hb);simpa using this
       exact⟨_,qAB oM⟩
      obtain⟨ox,hox⟩:=hxl
      have:=zCf hcl' l.length x ox (by simpa using hox) (fun e he hbn=>hcl x ox hox hfx e he hbn) hr
      rw[hun]at this;cases this) (by have:=(qAA.1 hei).1;omega)
   rw[hcnt]at hI
   refine .inl ⟨by unfold Region.wanted;rw[hgd],?_⟩
   refine Oper.wp_mono ?_ (hE _ (fun t ht=>same t ht) _ a w hI)
   rintro a' w' ⟨σ',η'',⟨rfl,rfl⟩,hab⟩
   simp only[I,zRf hnd hei hun,hcnt]
   refine hab.le fun t=>.inl ?_
   exact(next t).symm
  ·
   rename_i hi
   have hnm:=zKu hi
   have hlow:lowC l es j<=cntC es f:=by unfold lowC;exact zNM (f:=fun e=>zEy l.toArray l.length j e) fun k _ hk=>hreach k hk
   have hup:cntC es f<=upC l es j:=by
    unfold upC
    refine zNM (f:=f) (g:=fun e=>!zEy l.toArray l.length e j) fun e he hfe=>?_
    cases hr:zEy l.toArray l.length e j with
    |false=>rfl
    |true =>
     exfalso
     have hel:e<ss.length:=by have:=qAI.1 hes e he;simpa using this
     have hox:l[e]?=some (l[e]' oM):=qAB oM
     have:=zCf hcl' l.length e _ (by simp[hox]) (fun ed he hbn=>hcl e _ hox hfe ed he hbn) hr
     rw[hun]at this;cases this
   have hlen:cntC es f<ηs.length:=by
    have:cntC es f<=es.length:=qBO _ _
    omega
   have hη2:ηs[cntC es f]?=some (ηs.getD (cntC es f) []):=by
    rw[qAL,qAB hlen];rfl
   have hy:Ylds C.P (ηs.getD (cntC es f) []) (pst σ 0 l ss f) o s:=hop _ _ hlow hup hη2 _ fun x hx=>by
    cases x with
    |tmp t=>show get _ t=get _ t;rw[same t (zB2 hx)]
    |_=>rfl
   obtain⟨g,h1⟩:=hI
   refine .inl ⟨by unfold Region.wanted;rw[hgd],?_⟩
   refine hy.wp hdst (fun a' w' hab=>?_) h1
   simp only[I,zRg hnm]
   refine hab.le fun t=>.inl ?_
   exact(next t).symm
 ·refine qAx (qBO _ _) sI
 ·intro j o hj hl
  have hjl:j<l.length:=(qAA.1 hj).1
  rw[qAQ,qAP (by simpa using hjl)]at hl
  simp at hl
 ·rw[qAQ,qAP pAH]
  simp
 ·have hf0:∀i,i<l.length->(Array.replicate l.toArray.size false).getD i true=false:=fun i hi=>by
   rw[qAQ,qAP pAH];simp
  have hc0:cntC es (fun i=>(Array.replicate l.toArray.size false).getD i true)=0:=by
   unfold cntC
   rw[List.filter_eq_nil_iff.2 fun e he=>by rw[hf0 e (by have:=qAI.1 hes e he;simp at this;omega)];simp];rfl
  simp only[I,hc0]
  obtain⟨g,hd0⟩:=hd0
  rw[h0]
  refine⟨g,{ hd0 with rep:=fun t=>?_ }⟩
  rw[zCz t l ss σ σ 0 _ (fun _=>false) rfl (fun i o hi hne=>?_),zFB]
  ·exact hd0.rep t
  ·rw[qAS,hf0 i (qAA.1 hi).1]at hne
   exact absurd rfl hne
section
variable {C:Ctx}{l r:List Oper}{es:List Nat}{ηs:List (List Ob)}{j:Nat}{s:SV}{ss:List SV}{σ:Sl}
theorem zHW: segS C l es ηs j r [] σ:=by cases r <;> trivial
theorem zYh{o:Oper}(hi:idxC es j=none)(hg:o.guard=none)(hd:zFA C.N o.dst)(h:YAll C σ o s ((ηs.take (upC l es j+1)).drop (lowC l es j)))(hr:segS C l es ηs (j+1) r ss (put σ o.dst s)): segS C l es ηs j (o::r) (s::ss) σ:=by
 refine⟨⟨hg,hd,?_⟩,hr⟩
 unfold zLn;rw[hi];exact h
theorem zQL{o:Oper}: ∀{L:List (List Ob)},(∀η,Ylds C.P η σ o s)->YAll C σ o s L
 |[],_=>trivial
 |η::_,h=>⟨h η,zQL h⟩
theorem zAZ{o:Oper}(hi:idxC es j=none)(hg:o.guard=none)(hd:zFA C.N o.dst)(h:∀η,Ylds C.P η σ o s)(hr:segS C l es ηs (j+1) r ss (put σ o.dst s)): segS C l es ηs j (o::r) (s::ss) σ:=zYh hi hg hd (zQL h) hr
theorem zBT{o:Oper}(lo up:Nat)(hi:idxC es j=none)(hg:o.guard=none)(hd:zFA C.N o.dst)(hlo:Nat.beq (lowC l es j) lo=true)(hup:Nat.beq (upC l es j) up=true)(h:YAll C σ o s ((ηs.take (up+1)).drop lo))(hr:segS C l es ηs (j+1) r ss (put σ o.dst s)): segS C l es ηs j (o::r) (s::ss) σ :=
 zYh hi hg hd (by rw[qAX hlo,qAX hup];exact h) hr
theorem zBM{t x y ty pos after}{id o n:Nat}{kb:Option Nat}{et:Option TypeId}{b0:Bool}{cs vs:List SV}{s0:SV}{ηi:List Ob}(i:Nat)(hi:idxC es j=some i)(hx:oval σ x=.ptr id o)(hy:oval σ y=s0)(hv:zHA s0=some vs)(ht:zBh C.P t=some (b0,n))(hηi:ηs.getD i []=ηi)(ho:ηi[id]?=some (.bx kb et cs))(hn:Nat.beq vs.length n=true)(hl:Nat.ble (o+n) cs.length=true)(hro:Nat.ble C.ro id=true)
  (hη:ηs.getD (i+1) []=ηi.set id (.bx kb et (cs.take o++vs++cs.drop (o+n)))) (hr:segS C l es ηs (j+1) r ss σ):segS C l es ηs j (⟨none,.store t x y,ty,pos,after,none⟩::r) (s::ss) σ:=by
 refine⟨⟨rfl,trivial,?_⟩,hr⟩
 unfold zLn;rw[hi]
 intro τ hτ
 have ex:∀z:Operand,z∈(Op.store t x y).operands->oval τ z=oval σ z:=fun z hz=>by
  cases z with
  |tmp u=>exact hτ u (zB2 hz)
  |_=>rfl
 rw[hηi,hη]
 refine EStep.of (ops:=l.toArray) (zAq (by rw[ex x sO];exact hx) (by rw[ex y sO];exact hy) hv ht ho hn hl hro (zAD ⟨rfl,rfl⟩))
end
structure Rn where
 d:Nat
 e:TypeId
 n:Nat
 cap:Nat
 zd:D
def Rn.cs(p:Rn): List SV:=List.replicate p.cap (.d p.zd)
def Rn.v(p:Rn)(b:Nat): Value:=.slice (some ⟨b,0,none⟩) p.n p.cap
section
variable {P:Program}{η:List Ob}{σ:Sl}{dst:Option Nat}{ty:TypeId}{pos:String}{after:Array Edge}{gd:Option (Nat×Bool)}{x:Operand}
end
open Go.Lib
section
variable {P:Program}{η:List Ob}{σ:Sl}{dst:Option Nat}{ty:TypeId}{pos:String}{after:Array Edge}{gd:Option (Nat×Bool)}{t yt:TypeId}{x y z:Operand}
end
end Go.Sx
namespace Go.Sx
open Go.RowKit
section
variable {P:Program}{η:List Ob}{σ:Sl}{dst:Option Nat}{ty:TypeId}{pos:String}{after:Array Edge}{gd:Option (Nat×Bool)}{t yt:TypeId}{x y:Operand}
end
def zEV(P:Program)(f:FuncId)(as:List SV)(pre:List Ob)(n:Nat)(e sz:Nat)(xs:List D): Prop :=
 ∀(g:Gh) (w:World) (vs:List Value),Inv g w pre->RepSs g w vs as->
  Calls P f vs.toArray w (fun r w'=>∃ob cap St',r=.returned (.slice (ob.map (⟨·,0,none⟩)) n cap)/\Below w.heap.size w w'/\Keep g.St w St' w'/\
   (∀b o,St' b o->g.St b o\/w.heap.size<=b)/\(∀b o,St' b o->b<w'.heap.size)/\cap<=maxLen/\xs.length<=cap/\(∀x∈xs,x.flat.length=sz)/\
   ((ob=none/\cap=0)\/∃b us,ob=some b/\w.heap.size<=b/\w'.heap[b]?=some (.cells us e (0,0))/\us.size=cap*sz/\(∀(j:Nat) (u:Value),j<xs.length*sz->us[j]?=some u->u.oneCell'=true)/\
    (∀(j:Nat) (u:Value) (d:D),us[j]?=some u->(zC2 xs)[j]?=some d->RepD St' w' u d)/\∀o,¬St' b o))
def zdS(k:Nat)(rs:Array ResultVar)(n e sz:Nat)(xs:List D)(σ:Sl)(η:List Ob): Prop :=
 ∃r,rs = #[.tmp r]/\((get σ r=.nil/\xs=[]/\n=0)\/∃id,Nat.ble k id=true/\get σ r=.buf id n/\η[id]?=some (.buf true e sz xs))
def zEU(k:Nat)(rs:Array ResultVar)(n e sz:Nat)(xs:List D): Exit->Sl->List Ob->Prop
 | .ret,σ,η=>zdS k rs n e sz xs σ η
 |_,_,_=>False
section
variable {C:Ctx}{ops:Array Oper}{rest:List Oper}{K:Sl->List Ob->Prop}{σ:Sl}{η:List Ob}{d:Nat}{ty:TypeId}{pos:String}{after:Array Edge}{gd:Option (Nat×Bool)}
end
section
variable {P:Program}{η:List Ob}{σ:Sl}{dst:Option Nat}{ty:TypeId}{pos:String}{after:Array Edge}{gd:Option (Nat×Bool)}{t:TypeId}{x y:Operand}
end
end Go.Sx
namespace Go.Sx
theorem Inv.noRow{g:Gh}{w:World}{η:List Ob}(hi:Inv g w η)(e sz:Nat):
  ∃g':Gh,Inv g' w (η++[.buf true e sz []])/\g'.St=g.St/\(∀id,id<g.n->g'.blk id=g.blk id/\g'.cap id=g.cap id/\g'.sz id=g.sz id)/\g'.n=g.n+1/\g'.blk g.n=none/\g'.cap g.n=0/\(∀j b,g'.blk j=some b->g.blk j=some b):=by
 have hn:=hi.n
 let g':Gh:={ g with blk:=upd g.blk g.n none,cap:=upd g.cap g.n 0,sz:=upd g.sz g.n sz,n:=g.n+1 }
 have hold:∀id,id<g.n->g'.blk id=g.blk id/\g'.cap id=g.cap id/\g'.sz id=g.sz id:=fun id hid=>by simp[g',upd,Nat.ne_of_lt hid]
 have hbl:∀j b,g'.blk j=some b->g.blk j=some b:=fun j b hb=>by
  by_cases h:j=g.n
  ·subst h;simp[g',upd]at hb
  ·simpa[g',upd,h]using hb
 have kp:Keep g.St w g'.St w:=⟨fun _ _ h=>h,fun _ _ _ _ h=>h,fun _ _=>rfl⟩
 refine⟨g',⟨by show g.n+1=_;rw[hn];simp,fun id b hb=>hi.lt id b (hbl id b hb),fun id hid=>?_,fun i j b h1 h2=>hi.inj i j b (hbl i b h1) (hbl j b h2),fun id o ho=>?_,hi.st,hi.gl⟩,rfl,hold,rfl,by simp[g',upd],by simp[g',upd],hbl⟩
 ·have h1:g.n+1<=id:=hid
  have hne:id≠g.n:=by omega
  simp only[g',upd,if_neg hne]
  exact hi.dead id oM
 ·rw[List.getElem?_append]at ho
  split at ho
  ·rename_i hc
   exact(hi.ob id o ho).ext kp hold (by show g.n<=g.n+1;omega) oM (fun b hb=>⟨rfl,fun o=>Iff.rfl⟩)
  ·rename_i hc
   have hid:id=g.n:=by
    have:=(qAA.1 ho).1
    simp at this;omega
   subst hid
   rw[show g.n-η.length=0 by omega]at ho
   simp at ho;subst ho
   exact⟨by simp[g',upd],by simp,by simp[g',upd],by simp,.inl ⟨by simp[g',upd],by simp[g',upd]⟩⟩
theorem RepSs.ext{g g':Gh}{w:World}(k:Keep g.St w g'.St w)(h:∀id,id<g.n->g'.blk id=g.blk id/\g'.cap id=g.cap id/\g'.sz id=g.sz id)(hn:g.n<=g'.n): ∀{vs:List Value} {ss:List SV},RepSs g w vs ss->RepSs g' w vs ss
 |[],[],_=>trivial
 |_::_,_::_,hr=>⟨hr.1.ext k h hn,RepSs.ext k h hn hr.2⟩
 |[],_::_,hr=>hr.elim
 |_::_,[],hr=>hr.elim
theorem RepSs.split{g:Gh}{w:World}{bs:List SV}: ∀{as:List SV} {vs:List Value},RepSs g w vs (as++bs)->∃us ws,vs=us++ws/\RepSs g w us as/\RepSs g w ws bs
 |[],vs,h=>⟨[],vs,rfl,trivial,h⟩
 |_::_,[],h=>h.elim
 |a::as,v::vs,h=>by
  obtain⟨us,ws,e,h1,h2⟩:=RepSs.split (as:=as) h.2
  exact⟨v::us,ws,by rw[e];rfl,⟨h.1,h1⟩,h2⟩
theorem RepSs.join{g:Gh}{w:World}{ws:List Value}{bs:List SV}(h2:RepSs g w ws bs): ∀{us:List Value} {as:List SV},RepSs g w us as->RepSs g w (us++ws) (as++bs)
 |[],[],_=>h2
 |_::_,_::_,h=>⟨h.1,RepSs.join h2 h.2⟩
 |[],_::_,h=>h.elim
 |_::_,[],h=>h.elim
theorem zOH{P:Program}{f:FuncId}{pre post:List Ob}{res:SV}{e sz k:Nat}(avs bvs:List SV)(hk:pre.length=k)(h:zBR P f (avs ++ .buf k 0::bvs) (pre++[.buf true e sz []]) res post): zBR P f (avs ++ .nil::bvs) pre res post:=by
 subst hk
 intro g w vs hi hr
 obtain⟨g',hi',hst,hold,hn,hb,hc,hbl⟩:=hi.noRow e sz
 have kp:Keep g.St w g'.St w:=⟨fun _ _ h=>by rw[hst];exact h,fun _ _ _ _ h=>h,fun _ _=>rfl⟩
 obtain⟨us,ws,rfl,h1,h2⟩:=hr.split
 cases ws with
 |nil=>exact h2.elim
 |cons v ws =>
  obtain⟨h2,h3⟩:=h2
  have hv:v=.slice none 0 0:=h2
  have ext:=fun {vs:List Value} {ss:List SV} (r:RepSs g w vs ss)=>r.ext kp hold (by omega:g.n<=g'.n)
  have hr':RepSs g' w (us++v::ws) (avs ++ .buf pre.length 0::bvs):=(show RepSs g' w (v::ws) (.buf pre.length 0::bvs)from⟨⟨by rw[hn,hi.n];omega,by rw[hv,<-hi.n,hb,hc];rfl⟩,ext h3⟩).join (ext h1)
  refine(h g' w _ hi' hr').mono fun r w' ⟨v',g'',e1,e2,e3,F⟩=>⟨v',g'',e1,e2,e3,⟨F.os,F.tape,F.output,F.size,fun k hk hno=>F.heap k hk fun j hj=>hno j (hbl j k hj),hst▸F.keep,fun b o ho=>?_,fun j b hj=>?_,fun j o hj ho=>?_⟩⟩
  ·rcases F.new b o ho with h|h|⟨j,h⟩
   ·exact .inl (hst▸h)
   ·exact .inr (.inl h)
   ·exact .inr (.inr ⟨j,hbl j b h⟩)
  ·rcases F.own j b hj with h|⟨i,h⟩
   ·exact .inl h
   ·exact .inr ⟨i,hbl i b h⟩
  ·have hlt:j<pre.length:=(qAA.1 hj).1
   rw[F.box j o (by rw[qAG hlt];exact hj) ho]
   exact(hold j (by rw[hi.n];exact hlt)).1
theorem zEm{C:Ctx}{σ:Sl}{η:List Ob}{Q:Exit->Sl->List Ob->Prop}{c:Code}(id j:Nat){k:Option Nat}{et:Option TypeId}{cs:List SV}{s:SV}{d:D}(ho:η[id]?=some (.bx k et cs))(hj:cs[j]?=some s)(hc:Co η s d)
  (h:awp C c Q σ (η.set id (.bx k et (cs.set j (.d d))))):awp C c Q σ η:=by
 intro R hR a w ⟨g,ha⟩
 refine h R hR a w ⟨g,{ ha with inv:={ ha.inv with n:=by simpa using ha.inv.n,ob:=fun i o hi=>?_ } }⟩
 have hidl:id<η.length:=(qAA.1 ho).1
 rw[qAh]at hi
 split at hi
 ·rename_i e;subst e
  try rw[if_pos hidl]at hi
  injection hi with hi;subst hi
  obtain⟨b,e',us,h1,h2,h3,h4,h5,h6,h7⟩:=ha.inv.ob id _ ho
  refine⟨b,e',us,h1,h2,by simpa using h3,h4,fun m u s' hu hs=>?_,h6,h7⟩
  rw[qAh]at hs
  split at hs
  ·rename_i hm;subst hm
   have hjl:=(qAA.1 hj).1
   try rw[if_pos hjl]at hs
   injection hs with hs;subst hs
   exact Co.rep ha.inv (h5 j u _ hu hj) hc
  ·exact h5 m u s' hu hs
 ·exact ha.inv.ob i o hi
open Go.RowKit
section
variable {C:Ctx}{ops:Array Oper}{rest:List Oper}{K:Sl->List Ob->Prop}{σ:Sl}{η:List Ob}{d:Nat}{ty:TypeId}{pos:String}{after:Array Edge}{gd:Option (Nat×Bool)}{t:TypeId}{x y:Operand}
end
end Go.Sx
namespace Go.Sx
open Go.RowKit
section
variable {C:Ctx}{l:List Oper}{es:List Nat}{G:Nat->SV->SV}{Tn:Nat->Sl->Sl}{j:Nat}{o:Oper}{r:List Oper}{s:SV}{ss:List SV}{σ:Sl}{η0 η1 η2:List Ob}
end
section
variable {C:Ctx}{ops:Array Oper}{l:List Oper}{K:Sl->List Ob->Prop}{σ:Sl}{η:List Ob}
end
structure Fn where
 d:Nat
 v:Nat->Value
 ob:Obj
 o:Nat->Ob
section
variable {P:Program}{η:List Ob}{σ:Sl}{dst:Option Nat}{ty:TypeId}{pos:String}{after:Array Edge}{gd:Option (Nat×Bool)}{t:TypeId}
end
section
variable {P:Program}{η:List Ob}{σ:Sl}{dst:Option Nat}{ty:TypeId}{pos:String}{after:Array Edge}{gd:Option (Nat×Bool)}{t yt:TypeId}{x y:Operand}
end
section
variable {P:Program}{η:List Ob}{σ:Sl}{dst:Option Nat}{ty:TypeId}{pos:String}{after:Array Edge}{gd:Option (Nat×Bool)}{t:TypeId}{x y:Operand}
theorem zcP{sz e n:Nat}{xs:List Operand}{ds:List D}(he:zCB P t=some e)(hs:zBU P t=some sz)(hz:(zBv P e).isSome=true)(hp:Nat.blt 0 sz=true)(hb:Nat.ble (n*sz) 16777216=true){parts:Array (Nat×Operand)}(hparts:parts=((xs.zipIdx 0).map fun x=>(x.2,x.1)).toArray)
  (hl:xs.length=n) (hc:CoL η σ xs ds) (hf:∀d∈ds,d.flat.length=sz) (hok:ds.all okc=true):Ylds P η σ ⟨dst,.buildSlice t n parts,ty,pos,after,gd⟩ (.d (.tsl ds)):=by
 have hp:0<sz:=by simpa using hp
 have hb:=qAM hb
 subst hparts
 intro g w a hinv hop
 refine .inl ?_
 obtain⟨e',i,hu,hi,hsz⟩:=zB4 hs
 have:e'=e:=by have:=zCw he;rw[hu]at this;injection this with this;injection this
 subst this
 have hrep:=CoL.rep (a:=a) hinv xs ds (fun x hx=>hop x (by
  simp only[Op.operands,qBo,List.mem_toArray,qAo]
  obtain⟨j,hj,rfl⟩:=qBf.1 hx
  exact⟨(xs[j],j),by rw[qBf];exact⟨j,by simpa using hj,by simp⟩,rfl⟩)) hc
 have hlen:=hrep.len
 rw[qAE]at hlen
 obtain⟨i1,i2⟩:=RepDs.cells _ ds hrep hf hok
 have hfl:=zFx (sz:=sz) (xs.map a.eval) (fun v hv=>(i1 v hv).1)
 rw[qAE,hl]at hfl
 let us:=((xs.map a.eval).flatMap fun v=>v.cells.toList).toArray
 have hus:us.size=n*sz:=by simpa[us]using hfl
 have hpe:((((xs.zipIdx 0).map fun x=>(x.2,x.1)).toArray).map fun (p:Nat×Operand)=>(p.1,a.eval p.2)).toList=(((xs.map a.eval).zipIdx 0).map fun x=>(x.2,x.1)):=by
  simp[List.zipIdx_map,List.map_map,Function.comp_def]
 have hrun:(Instr.buildSlice t n ((((xs.zipIdx 0).map fun x=>(x.2,x.1)).toArray).map fun (p:Nat×Operand)=>(p.1,a.eval p.2))).run P w=.ok (.slice (some ⟨w.heap.size,0,none⟩) n n) (w.alloc (.cells us e')):=by
  have hzz:∃z,i.zero=some z:=by
   unfold zBv at hz;rw[hi]at hz
   cases hq:i.zero with
   |none=>simp[hq]at hz
   |some z=>exact⟨z,rfl⟩
  obtain⟨z,hzz⟩:=hzz
  by_cases h0:n=0
  ·subst h0
   have hx:xs=[]:=qAf hl
   subst hx
   simp[Instr.buildSlice,run_underlying hu,sizeOf,typeInfo,hi,newRow,Instr.fill,us,Array.range_zero']
  ·have hne:¬n*i.size=0:=by rw[hsz];intro h;rcases Nat.mul_eq_zero.1 h with h|h <;> omega
   have hfw:=Great.fill_whole hp (xs.map a.eval) ((Array.range (n*i.size)).map (z.cells[· % z.cells.size]!)) (fun v hv=>(i1 v hv).1) (by simp[hl,hsz])
   exact run_buildSlice w t e' n _ us i z hu hi hzz (by rw[hsz];omega) hne (by rw[hpe];rw[<-hsz]at hfw;exact hfw)
 let g':Gh:={ g with St:=fun b o=>g.St b o\/(b=w.heap.size/\o<n*sz) }
 have hgr:Grow g w g' (w.alloc (.cells us e')):=⟨rfl,rfl,rfl,rfl,rfl,rfl,rfl,by simp,fun k hk=>Below.heap_alloc w _ k hk,fun _ _ h=>.inl h,fun b o h=>h.imp_right fun h=>by omega,fun b o h=>by
  rcases h with h|h
  ·exact qAc (hinv.st b o h) sI
  ·rw[h.1];simp⟩
 refine⟨_,g',_,by simp only[execOp,Sem.run_bind];rw[hrun];rfl,hgr,?_⟩
 have hfds:(zC2 ds).length=n*sz:=by rw[zCQ hf,<-hlen,hl]
 have hn63:n<=maxLen:=by simp only[maxLen];have:n*1<=n*sz:=Nat.mul_le_mul_left _ hp;omega
 refine RepD.tsl _ n ds ?_
 refine RepD.slice _ n n sz ds us.toList oM (qAN _) hn63 hf (by rw[qAV,hus,hfds]) (fun u hu=>?_) (fun h0=>⟨_,rfl,fun j u hj=>⟨.inr ⟨rfl,?_⟩,?_⟩⟩) (fun j u d hu hd=>?_)
 ·simp only[us,List.mem_flatMap]at hu
  obtain⟨v,hv,hm⟩:=hu
  exact(i1 v hv).2 u (by simpa using hm)
 ·have:=(qAA.1 hj).1
  rw[qAV,hus]at this;simpa using this
 ·rw[Addr.add_lit,qAS,cell_of_row _ _ j us e' (0,0) (_root_.Go.heap_alloc_new w _)]
  rw[<-qAz];exact hj
 ·exact(i2 j u d (by simpa[us]using hu) hd).keep (hgr.keep hinv.st)
theorem zFT{sz e:Nat}(he:zCB P t=some e)(hs:zBU P t=some sz)(hz:(zBv P e).isSome=true)(hp:Nat.blt 0 sz=true): Ylds P η σ ⟨dst,.buildSlice t 0 #[],ty,pos,after,gd⟩ (.d (.tsl [])) :=
 zcP (xs:=[]) he hs hz hp sI (by rfl) rfl zAF sI rfl
theorem zaz{sz:Nat}(hx:oval σ x=.d (.tsl []))(hy:Co η (oval σ y) (.slice []))(hs:zBU P t=some sz):
  Ylds P η σ ⟨dst,.call ⟨.builtin .append, #[x,y], #[t,t]⟩,ty,pos,after,gd⟩ (.d (.slice [])):=by
 obtain⟨e',i,hu,hi',hsz⟩:=zB4 hs
 refine Ylds.same fun g w a hi h=>?_
 have hxr:=h x pAG;rw[hx]at hxr
 obtain⟨sa,hxv,hxr⟩:∃sa,a.eval x=.slice sa 0 0/\RepD g.St w (.slice sa 0 0) (.slice []):=by
  change RepD _ _ _ _ at hxr
  generalize a.eval x=v at hxr
  cases hxr with
  |tsl sa n xs h =>
   have:n=([]:List D).length:=by cases h;assumption
   subst this;exact⟨sa,rfl,h⟩
 have hyr:=(hy.rep hi (h y pAG)).open_slice (sz:=i.size) sI
 obtain⟨ya,yc,news,hyv,_,_,hnl,hn1,hncell,hnrep⟩:=hyr
 refine⟨.slice sa 0 0,?_,hxr⟩
 have hrun:(Builtin.append_ #[t,t] ty #[.slice sa 0 0,.slice ya 0 yc]).run P w=.ok (.slice sa 0 0) w:=by
  cases sa <;> cases ya <;> simp[Builtin.append_,run_underlying hu,sizeOf,typeInfo,hi',Builtin.lenOf,Builtin.firstCells,loadCells,loadCellsFrom,storeCells]
 simp only[execOp,resolve,invoke,builtin,Sem.run_bind,Sem.run_pure,Result.andThen_ok,qA4,qA1,List.map_nil,hxv,hyv]
 rw[show ([]:List D).length=0 from rfl,hrun];rfl
theorem zJa{e sz by':Nat}{ys:List D}(hx:oval σ x=.d (.tsl []))(hy:Co η (oval σ y) (.slice ys))
  (he:zCB P t=some e) (hs:zBU P t=some sz) (hz:zDf P e=some sz) (hb:zDZ P t=some by') (hf:∀d∈ys,d.flat.length=sz) (hlen:ys.length*by'<=140737488355328/\ys.length<=140737488355328) :
  Ylds P η σ ⟨dst,.call ⟨.builtin .append, #[x,y], #[t,t]⟩,ty,pos,after,gd⟩ (.d (.slice ys)):=by
 cases ys with
 |nil=>exact zaz hx hy hs
 |cons y0 r =>
  have:=zRt (P:=P) (dst:=dst) (ty:=ty) (pos:=pos) (after:=after) (gd:=gd) hx hy sI he hs hz hb sI hf (by simpa using hlen)
  simpa using this
end
section
variable {C:Ctx}{ops:Array Oper}{rest:List Oper}{K:Sl->List Ob->Prop}{σ:Sl}{η:List Ob}{d:Nat}{ty:TypeId}{pos:String}{after:Array Edge}{gd:Option (Nat×Bool)}{t:TypeId}{x y:Operand}
theorem zcM{e sz by':Nat}{xs ys:List D}(hx:oval σ x=.d (.tsl xs))(hy:Co η (oval σ y) (.slice ys))(h0:Nat.blt 0 ys.length=true)
  (he:zCB C.P t=some e) (hs:zBU C.P t=some sz) (hz:zDf C.P e=some sz) (hb:zDZ C.P t=some by') (hfx:∀d∈xs,d.flat.length=sz) (hf:∀d∈ys,d.flat.length=sz) (hlen:(xs.length+ys.length)*by'<=140737488355328/\xs.length+ys.length<=140737488355328) (hd:Nat.blt d C.N=true) (hro:Nat.ble C.ro η.length=true)
  (hK:alex C false ops rest K ((d,.buf η.length (xs.length+ys.length))::σ) (η++[.buf false e sz (xs++ys)])) :
  zBJ C false ops ⟨some d,.call ⟨.builtin .append, #[x,y], #[t,t]⟩,ty,pos,after,gd⟩ rest K σ η:=by
 have h0:0<ys.length:=by simpa using h0
 obtain⟨e',i,hu,hi',hsz⟩:=zB4 hs
 have:e'=e:=by have:=zCw he;rw[hu]at this;injection this with this;injection this
 subst this
 have hby:i.bytes=by':=by
  obtain⟨e2,i2,h1,h2,h3⟩:=zGL hb
  rw[hu]at h1;injection h1 with h1;injection h1 with h1;subst h1
  rw[hi']at h2;injection h2 with h2;subst h2;exact h3
 obtain⟨zv,hzz,hzs⟩:=zHE hi' hz
 refine zIo (fun g a w ha=>?_) hK
 have hi:=ha.inv
 have hxr:=ha.eval x;rw[hx]at hxr
 obtain⟨sa,hxv,hxr⟩:∃sa,a.eval x=.slice sa xs.length xs.length/\RepD g.St w (.slice sa xs.length xs.length) (.slice xs):=by
  change RepD _ _ _ _ at hxr
  generalize a.eval x=v at hxr
  cases hxr with
  |tsl sa n xs h =>
   have:n=xs.length:=by cases h;assumption
   subst this;exact⟨sa,rfl,h⟩
 obtain⟨sa',cap',olds,hv',_,_,hol,ho1,hocell,horep⟩:=hxr.open_slice hfx
 injection hv' with hv1 hv2 hv3;subst hv1;subst hv3
 have hyr:=(hy.rep hi (ha.eval y)).open_slice hf
 obtain⟨ya,yc,news,hyv,_,_,hnl,hn1,hncell,hnrep⟩:=hyr
 obtain⟨ad,rfl,hnc⟩:=hncell h0
 have hsrc:Src C.P i.size t (.slice (some ad) ys.length yc) ys.length news w:=Src.ofSlice w hu ad ys.length yc news (by rw[hnl,hsz]) (fun j u hj=>(hnc j u hj).2) hn1
 have hold:(Builtin.firstCells i.size xs.length (.slice sa xs.length xs.length)).run C.P w.drew=.ok olds.toArray w.drew:=by
  rcases Nat.eq_zero_or_pos xs.length with hz0|hz0
  ·have hon:olds=[]:=qAf (by rw[hol,hz0];simp)
   rw[hz0,hon]
   cases sa with
   |none=>exact run_firstCells_none w.drew i.size 0 0 0
   |some b=>exact run_firstCells_some w.drew i.size 0 b 0 0 [] sI (fun j u hj=>by simp at hj)
  ·obtain⟨b,rfl,hbc⟩:=hocell hz0
   exact run_firstCells_some w.drew i.size xs.length b xs.length xs.length olds (by rw[hol,hsz]) (fun j u hj=>by simpa using(hbc j u hj).2)
 have hfit:Builtin.nextslicecap (xs.length+ys.length) xs.length*i.bytes<=281474976710656:=growslice_fits oM (by rw[hby];exact hlen.1)
 have hrun:=run_append_grow_src (P:=C.P) w t t ty e' i zv hu hi' hzz sa xs.length xs.length olds hold _ _ _ hsrc oM oM hfit
 generalize hcells:(olds++news).toArray++Builtin.zeroCells zv.cells (grownCap w (xs.length+ys.length) xs.length e'-(xs.length+ys.length))=us' at hrun
 have hge:=grownCap_ge w (xs.length+ys.length) xs.length e'
 have hcm:=grownCap_le_maxLen w (xs.length+ys.length) xs.length e' (by simp only[maxLen];omega)
 have hat:∀j,j<(xs.length+ys.length)*sz->us'[j]?=(olds++news)[j]?:=fun j hj=>by
  rw[<-hcells,qAl (by simp only[qBN,qAH,hol,hnl];rw[<-qA8];exact hj)];simp
 have hcell:∀(j:Nat) (u:Value),(olds++news)[j]?=some u->(w.drew.alloc (.cells us' e')).cell? ⟨w.heap.size,j,none⟩=some u:=fun j u hj=>by
  have hjl:=(qAA.1 hj).1
  rw[qAH,hol,hnl,<-qA8]at hjl
  rw[cell_of_row _ w.heap.size j us' e' (0,0) (_root_.Go.heap_alloc_new w.drew _),hat j hjl];exact hj
 have hsz':us'.size=grownCap w (xs.length+ys.length) xs.length e'*sz:=by
  rw[<-hcells]
  simp only[Array.size_append,qBN,qAH,hol,hnl,size_zeroCells,hzs]
  rw[<-qA8,<-qA8];congr 1;omega
 have hbuf:=ha.newBuf (w':=w.drew.alloc (.cells us' e')) false e' sz (grownCap w (xs.length+ys.length) xs.length e') us' (xs++ys) rfl rfl rfl sI (fun k hk=>Below.heap_alloc w.drew _ k hk) (_root_.Go.heap_alloc_new w.drew _) (qAM hro) (fun d hd=>by
   rcases qAm.1 hd with h|h
   ·exact hfx d h
   ·exact hf d h) (by rw[qAH];exact hge) hcm hsz'
  (fun j u hj hu=>by
   rw[qAH]at hj
   rw[hat j hj]at hu
   rcases qAm.1 (qAC hu)with h|h
   ·exact ho1 u h
   ·exact hn1 u h)
  (fun j u d hu hd=>by
   have hjl:=(qAA.1 hd).1
   rw[zD4,qAH,zCQ hfx,zCQ hf,<-qA8]at hjl
   rw[hat j hjl]at hu
   rw[zD4]at hd
   rcases qAF j olds.length with h1|h1
   ·rw[qAG h1]at hu
    rw[qAG (by rw[zCQ hfx,<-hol];exact h1)]at hd
    exact horep j u d hu hd
   ·rw[qAD h1]at hu
    rw[qAD (by rw[zCQ hfx,<-hol];exact h1)]at hd
    rw[zCQ hfx,<-hol]at hd
    exact hnrep _ u d hu hd)
 refine⟨.slice (some ⟨w.heap.size,0,none⟩) (xs.length+ys.length) (grownCap w (xs.length+ys.length) xs.length e'),w.drew.alloc (.cells us' e'),?_,_,hbuf.put (d:=some d) hd ?_⟩
 ·simp only[execOp,resolve,invoke,builtin,Sem.run_bind,Sem.run_pure,Result.andThen_ok,qA4,qA1,List.map_nil,hxv,hyv,hrun]
 ·refine⟨?_,?_⟩
  ·show η.length<g.n+1;have:=ha.inv.n;omega
  ·have hn:=ha.inv.n
   show _=Value.slice ((upd g.blk g.n (some w.heap.size) η.length).map _) _ (upd g.cap g.n _ η.length)
   rw[<-hn];simp[upd]
end
section
variable {P:Program}{η:List Ob}{σ:Sl}{dst:Option Nat}{ty:TypeId}{pos:String}{after:Array Edge}{gd:Option (Nat×Bool)}{t:TypeId}{x y:Operand}
theorem zHo{sz:Nat}(hx:oval σ x=.d (.tsl []))(hy:Co η (oval σ y) (.slice []))(hs:zBU P t=some sz):
  Ylds P η σ ⟨dst,.call ⟨.builtin .append, #[x,y], #[t,t]⟩,ty,pos,after,gd⟩ (.d (.tsl [])):=by
 obtain⟨e',i,hu,hi',hsz⟩:=zB4 hs
 refine Ylds.same fun g w a hi h=>?_
 have hxr:=h x pAG;rw[hx]at hxr
 obtain⟨sa,hxv,hxr⟩:∃sa,a.eval x=.slice sa 0 0/\RepD g.St w (.slice sa 0 0) (.slice []):=by
  change RepD _ _ _ _ at hxr
  generalize a.eval x=v at hxr
  cases hxr with
  |tsl sa n xs h =>
   have:n=([]:List D).length:=by cases h;assumption
   subst this;exact⟨sa,rfl,h⟩
 have hyr:=(hy.rep hi (h y pAG)).open_slice (sz:=i.size) sI
 obtain⟨ya,yc,news,hyv,_,_,hnl,hn1,hncell,hnrep⟩:=hyr
 refine⟨.slice sa 0 0,?_,RepD.tsl _ 0 [] hxr⟩
 have hrun:(Builtin.append_ #[t,t] ty #[.slice sa 0 0,.slice ya 0 yc]).run P w=.ok (.slice sa 0 0) w:=by
  cases sa <;> cases ya <;> simp[Builtin.append_,run_underlying hu,sizeOf,typeInfo,hi',Builtin.lenOf,Builtin.firstCells,loadCells,loadCellsFrom,storeCells]
 simp only[execOp,resolve,invoke,builtin,Sem.run_bind,Sem.run_pure,Result.andThen_ok,qA4,qA1,List.map_nil,hxv,hyv]
 rw[show ([]:List D).length=0 from rfl,hrun];rfl
end
section
variable {C:Ctx}{l r:List Oper}{es:List Nat}{ηs:List (List Ob)}{j:Nat}{ss:List SV}{σ:Sl}
theorem zGZ{t x y ty pos after}{d e sz by' n id:Nat}{ys:List D}{ηi:List Ob}(i:Nat)(hi:idxC es j=some i)(hx:oval σ x=.d (.tsl []))(hy:oval σ y=.d (.slice ys))(hηi:ηs.getD i []=ηi)(h0:Nat.blt 0 ys.length=true)
  (he:zCB C.P t=some e) (hs:zBU C.P t=some sz) (hz:zDf C.P e=some sz) (hb:zDZ C.P t=some by') (hf:∀d∈ys,d.flat.length=sz) (hlen:ys.length*by'<=140737488355328/\ys.length<=140737488355328) (hd:Nat.blt d C.N=true) (hro:Nat.ble C.ro ηi.length=true) (hn:ys.length=n) (hid:ηi.length=id)
  (hη:ηs.getD (i+1) []=ηi++[.buf false e sz ys]) (hr:segS C l es ηs (j+1) r ss (put σ (some d) (.buf id n))):segS C l es ηs j (⟨some d,.call ⟨.builtin .append, #[x,y], #[t,t]⟩,ty,pos,after,none⟩::r) (.buf id n::ss) σ:=by
 subst hn
 subst hid
 refine⟨⟨rfl,hd,?_⟩,hr⟩
 unfold zLn;rw[hi]
 intro τ hτ
 have ex:∀z:Operand,z∈(Op.call ⟨.builtin .append, #[x,y], #[t,t]⟩).operands->oval τ z=oval σ z:=fun z hz=>by
  cases z with
  |tmp u=>exact hτ u (zB2 hz)
  |_=>rfl
 rw[hηi,hη]
 refine EStep.of (ops:=l.toArray) (zcM (xs:=[]) (by rw[ex x pAG];exact hx) (by rw[ex y pAG,hy];exact zAr rfl) h0 he hs hz hb sI hf (by simpa using hlen) hd hro (zAD ?_))
 simp only[qAb,qAS,qA9]
 trivial
end
def conc(P:Program)(t:TypeId): Bool:=match P.underlying t with
 |some (.interface _)=>false
 |some _=>true
 |none=>false
theorem zLE{P:Program}{t:TypeId}(h:conc P t=true): ∃u,P.underlying t=some u/\∀ms,u≠.interface ms:=by
 unfold conc at h
 split at h
 ·cases h
 ·rename_i u hu hn;exact⟨u,hn,fun ms e=>hu ms e⟩
 ·cases h
def zMU(P:Program)(e:TypeId): Option D :=
 match P.info? e with
 |some i=>match i.zero with
  |some (.agg cs)=>match cs.all (·.oneCell')with
   |true=>some (.agg (cs.toList.map zdv))
   |false=>none
  |some z=>some (zdv z)
  |none=>none
 |none=>none
theorem zTC{P:Program}{e:TypeId}{zd:D}(h:zMU P e=some zd): ∃z,(∀w,(zeroValue e).run P w=.ok z w)/\∀St w,RepD St w z zd:=by
 unfold zMU at h
 split at h
 ·rename_i i hi
  split at h
  ·rename_i cs hz
   split at h
   ·rename_i hall
    injection h with h;subst h
    refine⟨.agg cs,fun w=>by simp[zeroValue,typeInfo,hi,hz],fun St w=>?_⟩
    obtain⟨l⟩:=cs
    refine .agg l _ sI (fun u hu=>?_) fun j u d hu hd=>?_
    ·exact(qBX.1 hall) u pAI
    ·rw[qAJ,hu]at hd
     injection hd with hd;subst hd;exact zI7 St w u
   ·cases h
  ·rename_i z hne hz
   injection h with h;subst h
   exact⟨z,fun w=>by simp[zeroValue,typeInfo,hi,hz],fun St w=>zI7 St w z⟩
  ·cases h
 ·cases h
section
variable {P:Program}{η:List Ob}{σ:Sl}{dst:Option Nat}{ty:TypeId}{pos:String}{after:Array Edge}{gd:Option (Nat×Bool)}{t t1 t2:TypeId}{x:Operand}
theorem zDj{d:D}(hx:oval σ x=.d d)(hc:conc P t=true): Ylds P η σ ⟨dst,.makeInterface t x,ty,pos,after,gd⟩ (.d (.ifc t d)):=by
 obtain⟨u,hu,hn⟩:=zLE hc
 refine Ylds.same fun g w a hi h=>⟨.iface t (a.eval x),?_,?_⟩
 ·simp only[execOp,Instr.makeInterface,Sem.run_bind,run_underlying hu,Result.andThen_ok]
  cases u <;> first|rfl|exact absurd rfl (hn _)
 ·have h1:=h x sO;rw[hx]at h1
  exact .ifc t _ _ h1
theorem zPr{g:Gh}{w:World}{v:Value}{d:D}(h:RepS g w v (.d (.ifc t d))): ∃u,v=.iface t u/\RepD g.St w u d:=by
 change RepD _ _ _ _ at h
 cases h with
 |ifc t v d h=>exact⟨v,rfl,h⟩
theorem zFN{d:D}(hx:oval σ x=.d (.ifc t d))(hc:conc P t=true): Ylds P η σ ⟨dst,.typeAssert x t1 t true,ty,pos,after,gd⟩ (.d (.tup [d,bl true])):=by
 obtain⟨u,hu,hn⟩:=zLE hc
 refine Ylds.same fun g w a hi h=>?_
 have h1:=h x sO;rw[hx]at h1
 obtain⟨v,hv,hr⟩:=zPr h1
 refine⟨.tuple #[v,.bool true],?_,?_⟩
 ·simp only[execOp,Instr.typeAssert,Sem.run_bind,run_underlying hu,Result.andThen_ok,hv]
  cases u <;> first|(simp;done)|exact absurd rfl (hn _)
 ·refine .tup [v,.bool true] [d,bl true] rfl fun j u e hu he=>?_
  match j,hu,he with
  |0,hu,he=>simp at hu he;subst hu;subst he;exact hr
  |1,hu,he=>simp at hu he;subst hu;subst he;exact .val _
  |j+2,hu,_=>simp at hu
theorem zFO{d zd:D}(hx:oval σ x=.d (.ifc t d))(ht:Nat.beq t t2=false)(hc:conc P t2=true)(hz:zMU P t2=some zd): Ylds P η σ ⟨dst,.typeAssert x t1 t2 true,ty,pos,after,gd⟩ (.d (.tup [zd,bl false])):=by
 obtain⟨u,hu,hn⟩:=zLE hc
 obtain⟨z,z1,z2⟩:=zTC hz
 have hne:¬t=t2:=fun e=>by subst e;simp at ht
 refine Ylds.same fun g w a hi h=>?_
 have h1:=h x sO;rw[hx]at h1
 obtain⟨v,hv,hr⟩:=zPr h1
 refine⟨.tuple #[z,.bool false],?_,?_⟩
 ·simp only[execOp,Instr.typeAssert,Sem.run_bind,run_underlying hu,Result.andThen_ok,hv]
  cases u <;> first|(simp[hne,z1];done)|exact absurd rfl (hn _)
 ·refine .tup [z,.bool false] [zd,bl false] rfl fun j u e hu he=>?_
  match j,hu,he with
  |0,hu,he=>simp at hu he;subst hu;subst he;exact z2 _ _
  |1,hu,he=>simp at hu he;subst hu;subst he;exact .val _
  |j+2,hu,_=>simp at hu
end
abbrev pv(b:Nat): D:=.val (.pointer (some ⟨b,0,none⟩))
section
variable {C:Ctx}{σ:Sl}{η:List Ob}
theorem Abs.asPtr{a:Act}{w:World}(k id b:Nat){et:Option TypeId}{cs:List SV}(hk:get σ k=.d (pv b))(ho:η[id]?=some (.bx (some b) et cs))(h:Abs C σ η a w): Abs C ((k,.ptr id 0)::σ) η a w:=by
 obtain⟨g,ha⟩:=h
 obtain⟨b',e,us,o1,o2,o3,o4,o5,o6,o7,o8⟩:=ha.inv.ob id _ ho
 have hb:=o7 b rfl;subst hb
 refine⟨g,ha.defers,ha.size,ha.inv,ha.os,ha.tape,ha.output,ha.wsize,ha.heap,ha.keep,ha.new,ha.own,fun t=>?_⟩
 rw[zBl]
 split
 ·rename_i e;subst e
  have:=ha.rep k;rw[hk]at this
  refine⟨by rw[ha.inv.n];exact(qAA.1 ho).1,b,o1,RepD.val_eq this⟩
 ·exact ha.rep t
theorem zO8{Q:Exit->Sl->List Ob->Prop}{c:Code}(k id b:Nat){et:Option TypeId}{cs:List SV}(hk:get σ k=.d (pv b))(ho:η[id]?=some (.bx (some b) et cs))(h:awp C c Q ((k,.ptr id 0)::σ) η): awp C c Q σ η :=
 fun R hR a w hab=>h R hR a w (hab.asPtr k id b hk ho)
theorem Abs.named{a:Act}{w:World}(k id:Nat){kb:Option Nat}{et:Option TypeId}{cs:List SV}(hk:get σ k=.ptr id 0)(ho:η[id]?=some (.bx kb et cs))(h:Abs C σ η a w): ∃b,Abs C ((k,.d (pv b))::σ) (η.set id (.bx (some b) et cs)) a w:=by
 obtain⟨g,ha⟩:=h
 have hidl:id<η.length:=(qAA.1 ho).1
 obtain⟨b,e,us,o1,o2,o3,o4,o5,o6,o7,o8⟩:=ha.inv.ob id _ ho
 refine⟨b,g,ha.defers,ha.size,⟨by rw[qAv];exact ha.inv.n,ha.inv.lt,ha.inv.dead,ha.inv.inj,fun i o hi=>?_,ha.inv.st,ha.inv.gl⟩,ha.os,ha.tape,ha.output,ha.wsize,ha.heap,ha.keep,ha.new,ha.own,fun t=>?_⟩
 ·rw[qAh]at hi
  split at hi
  ·rename_i e;subst e
   try rw[if_pos hidl]at hi
   injection hi with hi;subst hi
   exact⟨b,e,us,o1,o2,o3,o4,o5,o6,(fun c hc=>by injection hc with hc;exact hc.symm),o8⟩
  ·exact ha.inv.ob i o hi
 ·rw[zBl]
  split
  ·rename_i e;subst e
   have hr:=ha.rep k;rw[hk]at hr
   obtain⟨_,b2,hb2,hv⟩:=hr
   rw[o1]at hb2;injection hb2 with hb2;subst hb2
   rw[hv];exact .val _
  ·exact ha.rep t
theorem Abs.ptrRef{a:Act}{w:World}(id k:Nat){kb:Option Nat}{et:Option TypeId}{ds:List D}(hk:get σ k=.ptr id 0)(ho:η[id]?=some (.bx kb et (ds.map .d)))(hro:C.ro<=id)(h:Abs C σ η a w):
  Abs C ((k,.d (.ref ds))::σ) (η.set id .gone) a w:=by
 obtain⟨g,ha⟩:=h
 have hidl:id<η.length:=(qAA.1 ho).1
 obtain⟨b,e,us,o1,o2,o3,o4,o5,o6,o7⟩:=ha.inv.ob id _ ho
 have hbl:=ha.inv.lt id b o1
 let g':Gh:={ g with St:=fun b' o=>g.St b' o\/(b'=b/\o<us.size) }
 have kp:Keep g.St w g'.St w:=⟨fun _ _ h=>.inl h,fun _ _ _ _ h=>h,fun _ _=>rfl⟩
 have re:∀{v:Value} {s:SV},RepS g w v s->RepS g' w v s:=fun r=>r.ext kp (fun _ _=>⟨rfl,rfl,rfl⟩) (qAN _)
 have lt:∀b o,g'.St b o->b<w.heap.size:=fun b' o hb=>by
  rcases hb with hb|⟨rfl,_⟩
  ·exact ha.inv.st b' o hb
  ·exact hbl
 refine⟨g',ha.defers,ha.size,⟨by rw[qAv];exact ha.inv.n,ha.inv.lt,ha.inv.dead,ha.inv.inj,fun i o hi=>?_,lt,ha.inv.gl.keep kp⟩,ha.os,ha.tape,ha.output,ha.wsize,ha.heap,ha.keep.trans kp,fun b' o hb=>?_,ha.own,fun t=>?_⟩
 ·rw[qAh]at hi
  split at hi
  ·injection hi with hi;subst hi;trivial
  ·rename_i hne
   refine(ha.inv.ob i o hi).ext kp (fun _ _=>⟨rfl,rfl,rfl⟩) (qAN _) (by rw[ha.inv.n];exact(qAA.1 hi).1) (fun b' hb=>⟨rfl,fun o=>⟨fun ho'=>?_,fun h=>.inl h⟩⟩)
   rcases ho' with h1|⟨h1,_⟩
   ·exact h1
   ·rw[h1]at hb
    exact absurd (ha.inv.inj i id b hb o1) (fun h=>hne h.symm)
 ·rcases hb with hb|⟨rfl,_⟩
  ·exact ha.new b' o hb
  ·exact(ha.own id b' o1 hro).elim (fun h=>.inr (.inl h)) (fun h=>.inr (.inr h))
 ·rw[zBl]
  split
  ·rename_i hc;subst hc
   have hkr:=ha.rep k;rw[hk]at hkr
   obtain⟨_,b2,hb2,hv⟩:=hkr
   rw[o1]at hb2;injection hb2 with hb2;subst hb2
   rw[hv]
   have hul:us.toList.length=ds.length:=by rw[qAV,o3,qAE]
   refine .ref _ us.toList ds hul (fun u hu=>o4 u pAI) (fun j u hu=>⟨?_,?_⟩) fun j u d hu hd=>?_
   ·have:=(qAA.1 hu).1
    exact .inr ⟨rfl,by simpa using this⟩
   ·rw[Addr.add_lit,qAS,cell_of_row w b j us e (0,0) o2];simpa using hu
   ·exact(o5 j u (.d d) pAI (by rw[qAJ,hd];rfl)).keep kp
  ·exact re (ha.rep t)
theorem zJW{Q:Exit->Sl->List Ob->Prop}{c:Code}(id k:Nat){kb:Option Nat}{et:Option TypeId}{ds:List D}(hk:get σ k=.ptr id 0)(ho:η[id]?=some (.bx kb et (ds.map .d)))(hro:Nat.ble C.ro id=true)(h:awp C c Q ((k,.d (.ref ds))::σ) (η.set id .gone)): awp C c Q σ η :=
 fun R hR a w hab=>h R hR a w (hab.ptrRef id k hk ho (qAM hro))
theorem zS3{ops:Array Oper}{rest:List Oper}{K:Sl->List Ob->Prop}(k id:Nat){kb:Option Nat}{et:Option TypeId}{cs:List SV}(hk:get σ k=.ptr id 0)(ho:η[id]?=some (.bx kb et cs))(h:∀b,alex C false ops rest K ((k,.d (pv b))::σ) (η.set id (.bx (some b) et cs))): alex C false ops rest K σ η:=by
 intro Q hQ a w hab
 obtain⟨b,hb⟩:=hab.named k id hk ho
 exact h b Q hQ a w hb
end
end Go.Sx
namespace Go.Sx
theorem ObOk.move{g g2:Gh}{w:World}{i j m:Nat}{o:Ob}(hb:o.below m=true)(hm:m<=g.n)(hm2:m<=g2.n)(hs:g2.St=g.St)(hk:∀k,k<m->g2.blk k=g.blk k/\g2.cap k=g.cap k/\g2.sz k=g.sz k)
  (hij:g2.blk j=g.blk i/\g2.cap j=g.cap i/\g2.sz j=g.sz i) (h:ObOk g w i o):ObOk g2 w j o:=by
 obtain⟨e1,e2,e3⟩:=hij
 have kp:Keep g.St w g2.St w:=by rw[hs];exact Keep.refl _ _
 have re:∀{v:Value} {s:SV},s.bel m=true->RepS g w v s->RepS g2 w v s:=fun hbs r =>
  (r.cut hm hbs).ext (g:=cut g m) (g':=g2) kp (fun k hk'=>by
   obtain⟨a1,a2,a3⟩:=hk k hk'
   have hk2:k<m:=hk'
   refine⟨?_,a2,a3⟩
   rw[a1];show _=(cut g m).blk k
   unfold cut;simp[hk2]) hm2
 cases o with
 |bx kb et cs =>
  obtain⟨b,e,us,h1,h2,h3,h4,h5,h6,h7⟩:=h
  refine⟨b,e,us,e1.trans h1,h2,h3,h4,fun q u s hu hc=>re (qAI.1 hb s (qAC hc)) (h5 q u s hu hc),fun o=>by rw[hs];exact h6 o,h7⟩
 |buf mu e sz xs =>
  obtain⟨h1,h2,h3,h4,h5⟩:=h
  refine⟨e3.trans h1,h2,by rw[e2];exact h3,by rw[e2];exact h4,?_⟩
  rw[e1,e2,hs]
  exact h5
 |iter s pos =>
  obtain⟨b,h1,h2,h3⟩:=h
  exact⟨b,e1.trans h1,h2,fun o=>by rw[hs];exact h3 o⟩
 |mapq q kb l =>
  obtain⟨b,es,ck,h1,h2,h3,h4,h5,h6⟩:=h
  exact⟨b,es,ck,e1.trans h1,h2,h3,fun j e p he hp=>⟨(h4 j e p he hp).1,by rw[hs];exact(h4 j e p he hp).2⟩,fun o=>by rw[hs];exact h5 o,h6⟩
 |miter k since seen st =>
  obtain⟨b,bm,h1,h2,h3,h4,h5⟩:=h
  have hkm:k<m:=qAc (by simpa[Ob.below]using hb) (qAN m)
  exact⟨b,bm,e1.trans h1,qAc hkm hm2,(hk k hkm).1.trans h3,h4,fun o=>by rw[hs];exact h5 o⟩
 |gone=>trivial
def insπ(m n k:Nat): Nat:=if k<m then k else if k=m then n else if k<=n then k-1 else k
theorem zXJ{m n i j:Nat}(hmn:m<=n)(h:insπ m n i=insπ m n j): i=j:=by
 unfold insπ at h
 repeat' split at h
 all_goals omega
def insG(m n:Nat)(g:Gh): Gh:={ g with blk:=fun k=>g.blk (insπ m n k),cap:=fun k=>g.cap (insπ m n k),sz:=fun k=>g.sz (insπ m n k) }
section
variable {C:Ctx}{σ:Sl}{η:List Ob}
theorem Abs.ins{a:Act}{w:World}{vis hid:List Ob}{o:Ob}{d m n:Nat}(hm:vis.length=m)(hn:hid.length+m=n)(hσ:zFW m σ=true)(hv:vis.all (Ob.below m)=true)(hh:∀p∈hid,p.below 0=true)(ho:o.below m=true)(hro:C.ro<=m)
  (h:Abs C ((d,.ptr n 0)::σ) (vis++(hid++[o])) a w):Abs C ((d,.ptr m 0)::σ) (vis++(o::hid)) a w:=by
 obtain⟨g,ha⟩:=h
 have hgn:g.n=n+1:=by rw[ha.inv.n];simp;omega
 have hmn:m<=n:=by omega
 have hlow:∀k,k<m->(insG m n g).blk k=g.blk k/\(insG m n g).cap k=g.cap k/\(insG m n g).sz k=g.sz k:=fun k hk=>by
  have:insπ m n k=k:=by unfold insπ;rw[if_pos hk]
  exact⟨congrArg g.blk this,congrArg g.cap this,congrArg g.sz this⟩
 have b0:∀{p:Ob},p.below 0=true->p.below m=true:=by
  have hs:∀{s:SV},s.bel 0=true->s.bel m=true:=by
   intro s
   induction s with
   |clo f ids=>intro h;exact qAI.2 fun i hi=>by have:=qAI.1 h i hi;simp at this
   |pair a b iha ihb=>intro h;simp only[SV.bel,qAR]at h ⊢;exact⟨iha h.1,ihb h.2⟩
   |_=>intro h;first|exact h|(simp[SV.bel]at h)
  intro p hp
  cases p with
  |bx kb et cs=>exact qAI.2 fun s hs'=>hs (qAI.1 hp s hs')
  |miter k since seen st=>simp[Ob.below]at hp
  |_=>exact hp
 have mv:∀{i j:Nat} {p:Ob},p.below m=true->insπ m n j=i->ObOk g w i p->ObOk (insG m n g) w j p:=fun {i j p} hp e h =>
  ObOk.move (g:=g) (g2:=insG m n g) (i:=i) (j:=j) hp oM (by show m<=g.n;omega) rfl hlow ⟨congrArg g.blk e,congrArg g.cap e,congrArg g.sz e⟩ h
 refine⟨insG m n g,{ ha with inv:=?_,own:=fun id b hb hr=>?_,rep:=fun t=>?_,keep:=ha.keep,new:=ha.new }⟩
 ·refine { n:=?_,lt:=fun id b hb=>ha.inv.lt _ b hb,dead:=fun id hid'=>?_,inj:=fun p q b hp hq=>zXJ hmn (ha.inv.inj _ _ b hp hq),ob:=fun id p hp=>?_,st:=ha.inv.st,gl:=ha.inv.gl }
  ·show g.n=_;rw[hgn];simp;omega
  ·have hid':g.n<=id:=hid'
   have:insπ m n id=id:=by unfold insπ;rw[if_neg oM,if_neg oM,if_neg oM]
   show g.blk (insπ m n id)=none
   rw[this];exact ha.inv.dead id hid'
  ·rcases qAF id m with h1|h1
   ·rw[qAG oM]at hp
    refine mv (qAI.1 hv p (qAC hp)) (by unfold insπ;rw[if_pos h1]) (ha.inv.ob id p ?_)
    rw[qAG oM];exact hp
   ·rw[qAD oM,hm]at hp
    rcases Nat.eq_or_lt_of_le h1 with h2|h2
    ·subst h2
     rw[Nat.sub_self]at hp
     injection hp with hp;subst hp
     refine mv ho (by unfold insπ;rw[if_neg oM,if_pos rfl]) (ha.inv.ob n o ?_)
     rw[qAD oM,hm,qAD oM,show n-m-hid.length=0 by omega];rfl
    ·rw[show id-m=(id-m-1)+1 by omega,List.getElem?_cons_succ]at hp
     have hl:=(qAA.1 hp).1
     refine mv (b0 (hh p (qAC hp))) (i:=id-1) (by unfold insπ;rw[if_neg oM,if_neg oM,if_pos oM]) (ha.inv.ob (id-1) p ?_)
     rw[qAD oM,hm,qAG oM,show id-1-m=id-m-1 by omega];exact hp
 ·rcases qAF id m with h1|h1
  ·refine ha.own id b ?_ hr
   rw[<-(hlow id h1).1];exact hb
  ·refine ha.own (insπ m n id) b hb ?_
   unfold insπ
   rw[if_neg oM]
   split
   ·omega
   ·split <;> omega
 ·rw[zBl]
  split
  ·rename_i e;subst e
   have hr:=ha.rep d
   rw[zBl,if_pos rfl]at hr
   obtain⟨_,b,hb,hv'⟩:=hr
   refine⟨by show m<g.n;omega,b,?_,hv'⟩
   show g.blk (insπ m n m)=some b
   rw[show insπ m n m=n by unfold insπ;rw[if_neg oM,if_pos rfl]];exact hb
  ·rename_i hne
   have hr:=ha.rep t
   rw[zBl,if_neg hne]at hr
   refine RepS.ext (g:=cut g m) (g':=insG m n g) (Keep.refl g.St w) (fun k hk=>?_) (by show m<=g.n;omega) (hr.cut (m:=m) oM (zIw hσ t))
   have hk2:k<m:=hk
   obtain⟨a1,a2,a3⟩:=hlow k hk2
   refine⟨?_,a2,a3⟩
   rw[a1];unfold cut;simp[hk2]
def dataOb(p:Ob): Prop:=∃b et ds,p=.bx (some b) et (List.map SV.d ds)
theorem dataOb.bel{p:Ob}(h:dataOb p): p.below 0=true:=by
 obtain⟨b,et,ds,rfl⟩:=h
 exact qAI.2 fun s hs=>by obtain⟨d,_,rfl⟩:=qAo.1 hs;rfl
end
section
variable {C:Ctx}{ops:Array Oper}{rest:List Oper}{K:Sl->List Ob->Prop}{σ:Sl}{η:List Ob}{d:Nat}{ty t:TypeId}{pos:String}{after:Array Edge}{gd:Option (Nat×Bool)}{x:Operand}
theorem zYJ(hid:List Ob)(m:Nat){o:Ob}(hη:η.drop m=hid)(hm:(η.take m).length=m)(hσ:zFW m σ=true)(hv:(η.take m).all (Ob.below m)=true)(hh:∀p∈hid,dataOb p)(ho:o.below m=true)(hro:Nat.ble C.ro m=true)
  (h:alex C false ops rest K ((d,.ptr m 0)::σ) (η.take m++(o::hid))):alex C false ops rest K ((d,.ptr η.length 0)::σ) (η++[o]):=by
 intro Q hQ a w hab
 refine h Q hQ a w ?_
 have e:η++[o]=η.take m++(hid++[o]):=by rw[<-hη,<-qAY,qAi]
 have hl:hid.length+m=η.length:=by
  rw[<-hη,qAg]
  rw[qAU]at hm;omega
 rw[e]at hab
 exact hab.ins hm hl hσ hv (fun p hp=>(hh p hp).bel) ho (qAM hro)
theorem zCa{zs:List Value}(hid:List Ob)(m:Nat)(hh:∀p∈hid,dataOb p)(hz:zBv C.P t=some zs)(hd:Nat.blt d C.N=true)(hro0:Nat.ble C.ro η.length=true)(hη:η.drop m=hid)(hm:(η.take m).length=m)(hσ:zFW m σ=true)(hv:(η.take m).all (Ob.below m)=true)(hro:Nat.ble C.ro m=true)
  (h:alex C false ops rest K ((d,.ptr m 0)::σ) (η.take m++(.box (zs.map cst)::hid))):zBJ C false ops ⟨some d,.alloc t,ty,pos,after,gd⟩ rest K σ η:=by
 refine zA4 hz hd hro0 (zYJ hid m hη hm hσ hv hh ?_ hro h)
 refine qAI.2 fun s hs=>?_
 obtain⟨v,_,rfl⟩:=qAo.1 hs
 unfold cst;split <;> rfl
end
abbrev hidL(H:List (Nat×D)): List Ob:=H.map fun p=>.bx (some p.1) none [.d p.2]
abbrev hidU(H:List (Nat×D)): List Ob:=H.map fun p=>.bx none none [.d p.2]
theorem zBF(H:List (Nat×D)): ∀p∈hidL H,dataOb p:=fun p hp=>by
 obtain⟨q,_,rfl⟩:=qAo.1 hp
 exact⟨q.1,none,[q.2],rfl⟩
def zEg(P:Program)(f:FuncId)(as:List SV)(V:List Ob)(H:List (Nat×D)){Y:Type}(ok:Y->Prop)(res:Y->SV)(V':Y->List Ob)(H':Y->List (Nat×D)): Prop :=
 ∀(g:Gh) (w:World) (vs:List Value),Inv g w (V++hidL H)->RepSs g w vs as->
  Calls P f vs.toArray w (fun e w'=>∃y,ok y/\∃v g',e=.returned v/\Inv g' w' (V' y++hidL (H' y))/\RepS g' w' v (res y)/\Frame g w (V++hidU H) g' w')
theorem zKa{ids r:List Nat}: ∀{s:SV},s.bel ids.length=true->s.ren (ids++r)=s.ren ids:=by
 have hg:∀{i:Nat},Nat.blt i ids.length=true->(ids++r).getD i 0=ids.getD i 0:=fun {i} h=>by
  have h:i<ids.length:=by simpa using h
  rw[qAL,qAL,qAG h]
 intro s
 induction s with
 |ptr i o=>intro h;simp only[SV.ren,hg h]
 |bptr i k o=>intro h;simp only[SV.ren,hg h]
 |buf i n=>intro h;simp only[SV.ren,hg h]
 |bsl i k n=>intro h;simp only[SV.ren,hg h]
 |mp i=>intro h;simp only[SV.ren,hg h]
 |clo f l=>intro h;simp only[SV.ren];congr 1;exact qBP fun i hi=>hg (qAI.1 h i hi)
 |pair a b iha ihb=>intro h;simp only[SV.bel,qAR]at h;simp only[SV.ren,iha h.1,ihb h.2]
 |_=>intro _;rfl
theorem zKb{ids r:List Nat}{p:Ob}(h:p.below ids.length=true): p.ren (ids++r)=p.ren ids:=by
 cases p with
 |bx k et cs=>simp only[Ob.ren];congr 1;exact qBP fun s hs=>zKa (qAI.1 h s hs)
 |miter m since seen st =>
  have h:m<ids.length:=by simpa[Ob.below]using h
  simp only[Ob.ren];rw[qAL,qAL,qAG h]
 |_=>rfl
theorem zQU{bufs ids r:List Nat}{m:Nat}(hr:∀i∈r,m<=i): ∀{s:SV},s.bel m=true->s.wipe bufs (ids++r)=s.wipe bufs ids:=by
 have hg:∀{i:Nat},Nat.blt i m=true->(ids++r).any (Nat.beq i)=ids.any (Nat.beq i):=fun {i} h=>by
  have h:i<m:=by simpa using h
  rw[List.any_append]
  have:r.any (Nat.beq i)=false:=by
   cases e:r.any (Nat.beq i)with
   |false=>rfl
   |true=>have:=hr i (zQE.1 e);omega
  rw[this,Bool.or_false]
 intro s
 induction s with
 |bptr i k o=>intro h;simp only[SV.wipe,hg h]
 |buf i n=>intro h;simp only[SV.wipe,hg h]
 |bsl i k n=>intro h;simp only[SV.wipe,hg h]
 |pair a b iha ihb=>intro h;simp only[SV.bel,qAR]at h;simp only[SV.wipe,iha h.1,ihb h.2]
 |_=>intro _;rfl
theorem zR6{bufs ids r:List Nat}{m:Nat}(hr:∀i∈r,m<=i){p:Ob}(h:p.below m=true): p.wipe bufs (ids++r)=p.wipe bufs ids:=by
 cases p with
 |bx k et cs=>simp only[Ob.wipe];congr 1;exact qBP fun s hs=>zQU hr (qAI.1 h s hs)
 |_=>rfl
theorem zKM{bufs ids r:List Nat}{m:Nat}(hr:∀i∈r,m<=i): ∀{σ:Sl},zFW m σ=true->zGo bufs (ids++r) σ=zGo bufs ids σ
 |[],_=>rfl
 |(k,s)::σ,h=>by
  simp only[zFW,qAR]at h
  rw[zGo,zGo,zQU hr h.1,zKM hr h.2]
theorem zJV{V:List Ob}: ∀{ids r:List Nat},ids.length=V.length->∀{H:List (Nat×D)},r.length=H.length->zCF (ids++r) (V++hidU H)=zCF ids V:=by
 induction V with
 |nil =>
  intro ids r h H hr
  cases ids with
  |nil =>
   show zCF r (hidU H)=[]
   induction H generalizing r with
   |nil=>cases r with
    |nil=>rfl
    |cons a b=>simp at hr
   |cons q H ih=>cases r with
    |nil=>rfl
    |cons a b=>exact ih (by simpa using hr)
  |cons a b=>simp at h
 |cons o V ih =>
  intro ids r h H hr
  cases ids with
  |nil=>simp at h
  |cons i ids =>
   have:=ih (ids:=ids) (r:=r) (by simpa using h) (H:=H) hr
   show zCF (i::(ids++r)) (o::(V++hidU H))=zCF (i::ids) (o::V)
   simp only[zCF,this]
theorem zIW(m n:Nat): ∀i∈List.range' m n,m<=i:=fun _ hi=>(List.mem_range'_1.1 hi).1
theorem zS9{vis V V':List Ob}{H H':List (Nat×D)}{ids:List Nat}{m:Nat}(hm:vis.length=m)(hlen:ids.length=V.length)(hVV:V'.length=V.length)(hids:∀i∈ids,i<m)(hn:ids.Nodup)(hv:vis.all (Ob.below m)=true)(hV':V'.all (Ob.below V.length)=true)
  (hH:∀(j b:Nat) (d:D),H[j]?=some (b,d)->∃d',H'[j]?=some (b,d')) :
  ηOf (ids++List.range' m H.length) (V++hidU H) (V'++hidL H') (vis++hidL H)=zEX (zFC (zCF ids V) ids vis) ids (V'.map (Ob.ren ids))++hidL H':=by
 have hle:H.length<=H'.length:=by
  rcases qAF H'.length H.length with h|h
  ·obtain⟨d',h'⟩:=hH H'.length (H[H'.length]).1 (H[H'.length]).2 (by rw[qAB h])
   rw[qAj (qAN _)]at h';cases h'
  ·exact h
 have e1:(V'++hidL H').length-(V++hidU H).length=H'.length-H.length:=by simp only[qAH,qAE];omega
 have eids:zFE (ids++List.range' m H.length) (vis++hidL H).length (V++hidU H) (V'++hidL H')=ids++List.range' m H'.length:=by
  unfold zFE
  rw[e1,qAY,qAH,qAE,hm]
  congr 1
  rw[show H'.length=H.length+(H'.length-H.length) by omega,List.range'_append_1.symm]
  simp
 unfold ηOf
 rw[eids,e1,zJV hlen sI]
 have hnd:(ids++List.range' m H'.length).Nodup:=qBl.2 ⟨hn,List.nodup_range',fun a ha b hb e=>by subst e;have:=hids a ha;have:=zIW m _ a hb;omega⟩
 refine qBk fun i=>?_
 have hbl:(zFC (zCF ids V) (ids++List.range' m H.length) (vis++hidL H)++List.replicate (H'.length-H.length) Ob.gone).length=m+H'.length:=by
  rw[qAH,zDC,qAH,qAE,List.length_replicate];omega
 have hbase:∀k,k<m->(zFC (zCF ids V) (ids++List.range' m H.length) (vis++hidL H)++List.replicate (H'.length-H.length) Ob.gone)[k]?=(zFC (zCF ids V) ids vis)[k]?:=fun k hk=>by
  rw[qAG (by rw[zDC,qAH];omega),zGW,zGW,qAG oM]
  cases hq:vis[k]? with
  |none=>rfl
  |some q=>exact congrArg some (zR6 (zIW m _) (qAI.1 hv q (qAC hq)))
 rcases qAF i m with hi|hi
 ·have hrl:(zEX (zFC (zCF ids V) ids vis) ids (V'.map (Ob.ren ids))).length=m:=by rw[zFh,zDC,hm]
  rw[qAG (by rw[hrl];exact hi)]
  by_cases hmem:i∈ids
  ·obtain⟨j,hj⟩:=qBA.1 hmem
   have hjl:=(qAA.1 hj).1
   obtain⟨p,hp⟩:∃p,V'[j]?=some p:=⟨_,qAB oM⟩
   obtain⟨o,ho⟩:∃o,(zFC (zCF ids V) ids vis)[i]?=some o:=⟨_,qAB (by rw[zDC];omega)⟩
   have hpb:=qAI.1 hV' p (qAC hp)
   rw[zHI _ ids _ j i o (p.ren ids) hn hj (by rw[qAJ,hp];rfl) ho]
   rw[zHI _ _ _ j i o (p.ren (ids++List.range' m H'.length)) hnd (by rw[qAG hjl];exact hj) (by rw[qAJ,qAG oM,hp];rfl) (by rw[hbase i hi];exact ho)]
   rw[zKb (by rw[hlen];exact hpb)]
  ·rw[zGY _ ids _ i hmem,zGY _ _ _ i (fun h=>by
    rcases qAm.1 h with h|h
    ·exact hmem h
    ·have:=zIW m _ i h;omega),hbase i hi]
 ·rw[qAD (by rw[zFh,zDC];omega),zFh,zDC,hm]
  rcases qAF (i-m) H'.length with hj|hj
  ·obtain⟨⟨b,d⟩,hq⟩:∃q,H'[i-m]?=some q:=⟨_,qAB hj⟩
   have hR:(hidL H')[i-m]?=some (.bx (some b) none [.d d]):=by rw[qAJ,hq];rfl
   obtain⟨o,ho,hback⟩:∃o,(zFC (zCF ids V) (ids++List.range' m H.length) (vis++hidL H)++List.replicate (H'.length-H.length) Ob.gone)[i]?=some o/\Ob.back o (.bx (some b) none [.d d])=.bx (some b) none [.d d]:=by
    rcases qAF (i-m) H.length with h2|h2
    ·obtain⟨⟨b0,d0⟩,hq0⟩:∃q,H[i-m]?=some q:=⟨_,qAB h2⟩
     obtain⟨d',hd'⟩:=hH _ _ _ hq0
     rw[hq]at hd';injection hd' with hd';injection hd' with e2 e3;subst e2
     refine⟨.bx (some b) none [.d d0],?_,rfl⟩
     rw[qAG (by rw[zDC,qAH,qAE];omega),zGW,qAD oM,hm,qAJ,hq0];rfl
    ·refine⟨.gone,?_,rfl⟩
     rw[qAD (by rw[zDC,qAH,qAE];omega),List.getElem?_replicate,if_pos (by rw[zDC,qAH,qAE];omega)]
   rw[hR,zHI _ _ _ (ids.length+(i-m)) i o (.bx (some b) none [.d d]) hnd ?_ ?_ ho,hback]
   ·rw[qAD oM,qBr oM];congr 1;omega
   ·rw[qAJ,qAD oM,show ids.length+(i-m)-V'.length=i-m by omega,hR];rfl
  ·rw[qAj (by rw[zFh,hbl];omega),qAj (by rw[qAE];omega)]
theorem zEC{m n:Nat}(h:m<=n){p:Ob}(hp:p.below m=true): p.below n=true:=by
 have hs:∀{s:SV},s.bel m=true->s.bel n=true:=by
  intro s
  induction s with
  |clo f ids=>intro h';exact qAI.2 fun i hi=>by have:=qAI.1 h' i hi;simp at this ⊢;omega
  |pair a b iha ihb=>intro h';simp only[SV.bel,qAR]at h' ⊢;exact⟨iha h'.1,ihb h'.2⟩
  |ptr i o=>intro h';simp[SV.bel]at h' ⊢;omega
  |bptr i k o=>intro h';simp[SV.bel]at h' ⊢;omega
  |buf i o=>intro h';simp[SV.bel]at h' ⊢;omega
  |bsl i k o=>intro h';simp[SV.bel]at h' ⊢;omega
  |mp i=>intro h';simp[SV.bel]at h' ⊢;omega
  |_=>intro _;rfl
 cases p with
 |bx kb et cs=>exact qAI.2 fun s hs'=>hs (qAI.1 hp s hs')
 |miter k since seen st=>simp[Ob.below]at hp ⊢;omega
 |_=>rfl
theorem zFY: ∀{V V':List Ob} {H H':List (Nat×D)},zEw V V'=true->H.length<=H'.length->zDE (V++hidU H) (V'++hidL H')=true
 |[],[],[],H',_,_=>by cases H' <;> rfl
 |[],[],q::H,[],_,h=>by simp at h
 |[],[],q::H,q'::H',_,h=>by
  have:=zFY (V:=[]) (V':=[]) (H:=H) (H':=H') rfl (by simpa using h)
  simp only[qA9]at this ⊢
  simp only[hidU,hidL,qA1,zDE,qAR]
  exact⟨rfl,this⟩
 |o::V,p::V',H,H',h,hl=>by
  simp only[zEw,qAR]at h
  simp only[qBL,zDE,qAR]
  exact⟨h.1,zFY h.2 hl⟩
 |[],_::_,_,_,h,_=>by cases h
 |_::_,[],_,_,h,_=>by cases h
section
variable {C:Ctx}{ops:Array Oper}{rest:List Oper}{K:Sl->List Ob->Prop}{σ:Sl}{η:List Ob}{d:Nat}{ty:TypeId}{pos:String}{after:Array Edge}{gd:Option (Nat×Bool)}
theorem zCH{f:FuncId}{args:List Operand}{ts:Array TypeId}{as:List SV}{V:List Ob}{H:List (Nat×D)}{Y:Type}{ok:Y->Prop}{res:Y->SV}{V':Y->List Ob}{H':Y->List (Nat×D)}(m:Nat)(ids:List Nat)(hb:zAQ C.P f=true)(hc:zEg C.P f as V H ok res V' H')
  (hη:η.drop m=hidL H) (hm:(η.take m).length=m) (hv:(η.take m).all (Ob.below m)=true) (hσ:zFW m σ=true) (ha:SArgs σ ids args as) (hp:Picks (η.take m) ids V) (hd:Nat.blt d C.N=true) (hn:ids.Nodup) (hlen:ids.length=V.length) (hids:ids.all (fun i=>Nat.blt i m)=true) (hu:zEr V=true)
  (hbl:V.all (Ob.below V.length)=true) (hba:as.all (SV.bel V.length)=true) (hro:Nat.ble C.ro m=true) (hroi:ids.all (fun i=>Nat.ble C.ro i)=true)
  (hk:∀y,ok y->zEw V (V' y)=true/\(V' y).all (Ob.below V.length)=true/\(res y).bel V.length=true/\∀(j b:Nat) (d:D),H[j]?=some (b,d)->∃d',(H' y)[j]?=some (b,d'))
  (h:∀y,ok y->alex C false ops rest K ((d,(res y).ren ids)::zGo (zCF ids V) ids σ) (zEX (zFC (zCF ids V) ids (η.take m)) ids ((V' y).map (Ob.ren ids))++hidL (H' y))) :
  zBJ C false ops ⟨some d,.call ⟨.value (.func f),args.toArray,ts⟩,ty,pos,after,gd⟩ rest K σ η:=by
 intro Q hQ a w ⟨g,hg⟩ K' hK'
 have hro:=qAM hro
 have hids':∀i∈ids,i<m:=fun i hi=>by have:=qAI.1 hids i hi;simpa using this
 generalize hvis:η.take m=vis at *
 have heη:η=vis++hidL H:=by rw[<-hvis,<-hη,qAi]
 subst heη
 have hml:vis.length=m:=hm
 have hge:=zIW m H.length
 have hlen':(ids++List.range' m H.length).length=(V++hidU H).length:=by simp[hlen]
 have hn':(ids++List.range' m H.length).Nodup:=qBl.2 ⟨hn,List.nodup_range',fun a ha b hb e=>by subst e;have:=hids' a ha;have:=hge a hb;omega⟩
 have hp':Picks (vis++hidL H) (ids++List.range' m H.length) (V++hidU H):=by
  unfold Picks at hp ⊢
  rw[qAZ,qAZ]
  congr 1
  ·have e1:(ids.map fun i=>((vis++hidL H)[i]?).map Ob.forget)=ids.map fun i=>(vis[i]?).map Ob.forget:=qBP fun i hi=>by rw[qAG (by have:=hids' i hi;omega)]
   rw[e1,hp]
   exact qBP fun p hpm=>by rw[zKb (by rw[hlen];exact qAI.1 hbl p hpm)]
  ·refine qBk fun j=>?_
   rw[qAJ,qAJ,qAJ]
   rcases qAF j H.length with hj|hj
   ·rw[qBr hj,qAB hj]
    show some (((vis++hidL H)[m+1*j]?).map Ob.forget)=some (some _)
    rw[qAD oM,show m+1*j-vis.length=j by omega,qAJ,qAB hj];rfl
   ·rw[qAj pAK,qAj hj];rfl
 have hpu:zEr (V++hidU H)=true:=by
  unfold zEr at hu ⊢
  rw[qBp,hu,qA5]
  exact qAI.2 fun p hpm=>by obtain⟨q,_,rfl⟩:=qAo.1 hpm;rfl
 have hpb:(V++hidU H).all (Ob.below (V++hidU H).length)=true:=by
  rw[qBp,qAR]
  refine⟨qAI.2 fun p hpm=>zEC sI (qAI.1 hbl p hpm),qAI.2 fun p hpm=>?_⟩
  obtain⟨q,_,rfl⟩:=qAo.1 hpm;rfl
 have hI0:=hg.inv.callee hn' hlen' hp' hpu hpb
 have hI1:Inv (zCG g (ids++List.range' m H.length)) w (V++hidL H):=by
  refine { hI0 with n:=by rw[hI0.n];simp,ob:=fun id o ho=>?_ }
  rcases qAF id V.length with h1|h1
  ·rw[qAG h1]at ho
   exact hI0.ob id o (by rw[qAG h1];exact ho)
  ·rw[qAD h1,qAJ]at ho
   cases hq:H[id-V.length]? with
   |none=>rw[hq]at ho;cases ho
   |some q =>
    rw[hq]at ho;injection ho with ho;subst ho
    have hjl:=(qAA.1 hq).1
    obtain⟨b,e,us,o1,o2,o3,o4,o5,o6,o7⟩:=hI0.ob id (.bx none none [.d q.2]) (by rw[qAD h1,qAJ,hq];rfl)
    obtain⟨b2,e2,us2,p1,p2,p3,p4,p5,p6,p7⟩:=hg.inv.ob (m+(id-V.length)) (.bx (some q.1) none [.d q.2]) (by rw[qAD oM,qAJ,show m+(id-V.length)-vis.length=id-V.length by omega,hq];rfl)
    refine⟨b,e,us,o1,o2,o3,o4,o5,o6,(fun c hc=>?_),o7.2⟩
    have hc2:=p7.1 c hc
    have hgi:(zCG g (ids++List.range' m H.length)).blk id=g.blk (m+(id-V.length)):=by
     show ((ids++List.range' m H.length)[id]?).bind g.blk=_
     rw[qAD oM,qBr oM,show m+1*(id-ids.length)=m+(id-V.length) by omega];rfl
    rw[hgi,p1]at o1
    injection o1 with o1
    rw[hc2,o1]
 have hba':as.all (SV.bel (V++hidU H).length)=true:=qAI.2 fun s hs=>by
  have:=zEC (m:=V.length) (n:=(V++hidU H).length) sI (p:=.bx none none [s]) (by show (s.bel V.length&&true)=true;rw[qAI.1 hba s hs];rfl)
  have h2:(s.bel (V++hidU H).length&&true)=true:=this
  simpa using h2
 have ha':SArgs σ (ids++List.range' m H.length) args as:=by
  have key:∀(xs:List Operand) (ss:List SV),ss.all (SV.bel V.length)=true->SArgs σ ids xs ss->SArgs σ (ids++List.range' m H.length) xs ss:=by
   intro xs
   induction xs with
   |nil=>intro ss _ h;cases ss with
    |nil=>exact h
    |cons=>exact h.elim
   |cons x xs ih=>intro ss hs h;cases ss with
    |nil=>exact h.elim
    |cons s ss =>
     simp only[qBn,qAR]at hs
     exact⟨by rw[zKa (by rw[hlen];exact hs.1)];exact h.1,ih ss hs.2 h.2⟩
  exact key args as hba ha
 obtain⟨e1,e2⟩:=ha'.rep hg
 unfold Oper.wp
 have hrun:(execOp a.eval ⟨some d,.call ⟨.value (.func f),args.toArray,ts⟩,ty,pos,after,gd⟩).run C.P w=.ok (.enter f (args.map a.eval).toArray) w:=by
  simp only[execOp,resolve,Act.eval,Deferred.ofValue,invoke,Sem.run_bind,Sem.run_pure,Result.andThen_ok,qA4,qBW,qBq]
  exact zDG hb
 rw[hrun,Oper.upon_enter]
 have hr:=RepSs.callee (g:=g) (w:=w) hlen' (args.map a.eval) as e2 (by simp[e1]) hba'
 refine(hc _ w _ hI1 hr).mono fun e w' ⟨y,hy,v,g',he,hI,hres,hF⟩=>?_
 subst he
 obtain⟨k1,k2,k3,k4⟩:=hk y hy
 obtain⟨s1,s2⟩:=zD2 k1
 have hle:H.length<=(H' y).length:=by
  rcases qAF (H' y).length H.length with h|h
  ·obtain⟨d',h'⟩:=k4 (H' y).length (H[(H' y).length]).1 (H[(H' y).length]).2 (by rw[qAB h])
   rw[qAj (qAN _)]at h';cases h'
  ·exact h
 obtain⟨g2,h1,h2⟩:=hg.called hn' hlen' hp' (zFY k1 hle) (by
  rw[qBp,hroi,qA5]
  exact qAI.2 fun i hi=>Nat.ble_eq_true_of_le (qAx hro (hge i hi))) hI hres hF
 have eb:zCF (ids++List.range' m H.length) (V++hidU H)=zCF ids V:=zJV hlen sI
 rw[zS9 hml hlen s2.symm hids' hn hv k2 k4,eb,zKM hge hσ]at h1
 have e3:(res y).ren (zFE (ids++List.range' m H.length) (vis++hidL H).length (V++hidU H) (V' y++hidL (H' y)))=(res y).ren ids:=by
  unfold zFE
  rw[qAY]
  exact zKa (by rw[hlen];exact k3)
 rw[e3]at h2
 exact hK' _ _ (h y hy Q hQ _ w' ⟨g2,h1.put (d:=some d) hd h2⟩)
end
def zEL{Y:Type}(rs:Array ResultVar)(ok:Y->Prop)(res:Y->SV)(post:Y->List Ob): Exit->Sl->List Ob->Prop:=fun e σ η=>∃y,ok y/\zBu rs (res y) (post y) e σ η
theorem zVX{Y:Type}{rs:Array ResultVar}{ok:Y->Prop}{res:Y->SV}{post:Y->List Ob}{σ:Sl}{η:List Ob}(y:Y)(hy:ok y)(h:MRes rs (res y) (post y) σ η): zEL rs ok res post .ret σ η:=⟨y,hy,h⟩
theorem zPB{f:Nat->Option Nat}{V V':List Ob}{L:List Ob}(h:V.length=V'.length)(j:Nat): (anch f 0 V V'++L)[j]?=((V'++L)[j]?).map fun o=>if j<V.length then anch1 (f j) o else o:=by
 rcases qAF j V.length with hj|hj
 ·rw[qAG (by rw[zGN];omega),zI0,qAG oM]
  simp[hj]
 ·rw[qAD (by rw[zGN];omega),zGN,qAD oM]
  cases L[j-V'.length]? with
  |none=>rfl
  |some o=>rw[qBG,if_neg oM]
theorem zXx{P:Program}{f:FuncId}{fn:Func}{c:Code}{as:List SV}{V:List Ob}{H:List (Nat×D)}{Y:Type}{ok:Y->Prop}{res:Y->SV}{V':Y->List Ob}{H':Y->List (Nat×D)}{N:Nat}{rs:Array ResultVar}(hf:P.funcs[f]?=some fn)(hb:fn.body=some c)(hN:fn.ntmps=N)(hrs:fn.results=rs)(hl:Nat.ble as.length N=true)
  (hk:∀y,ok y->zEw V (V' y)=true/\zEr (V' y)=true/\∀(j b:Nat) (d:D),H[j]?=some (b,d)->∃d',(H' y)[j]?=some (b,d'))
  (h:∀(w0:World) (St0:Stab) (X:Nat->Prop) (fx:Nat->Option Nat),awp ⟨P,N,w0,St0,X,0⟩ c (zEL rs ok res fun y=>anch fx 0 V (V' y)++hidL (H' y)) (zN2 as 0) (anch fx 0 V V++hidL H)):zEg P f as V H ok res V' H':=by
 intro g w vs hi hrep
 subst hN
 have hl:=qAM hl
 have hlen:=hrep.len
 have hI0:Inv g w (anch g.blk 0 V V++hidL H):=by
  refine⟨by rw[hi.n];simp[zGN],hi.lt,hi.dead,hi.inj,fun id o ho=>?_,hi.st,hi.gl⟩
  rw[zPB rfl]at ho
  cases hp:(V++hidL H)[id]? with
  |none=>rw[hp]at ho;cases ho
  |some p =>
   rw[hp]at ho;injection ho with ho;subst ho
   split
   ·exact(hi.ob id p hp).anch1
   ·exact hi.ob id p hp
 refine calls_of_wp hf hb (h w g.St (fun b=>∃j,g.blk j=some b) g.blk _ ?_ _ _ ?_)
 ·intro e σ' η' a' w' hq ha
  obtain⟨y,hy,hq⟩:=hq
  obtain⟨k1,k2,k3⟩:=hk y hy
  obtain⟨s1,s2⟩:=zD2 k1
  have fin:MRes rs (res y) (anch g.blk 0 V (V' y)++hidL (H' y)) σ' η'->a'.defers=[]/\∃v,(results fn a'.tmps).run P w' = .ok v w'/\∃y,ok y/\∃v_1 g',Ending.returned v=.returned v_1/\Inv g' w' (V' y++hidL (H' y))/\RepS g' w' v_1 (res y)/\Frame g w (V++hidU H) g' w':=by
   intro hq
   obtain⟨v,g',σ2,hr,hA,hrep'⟩:=hq.abs (P:=P) hrs ha
   have hob:∀j o,(V' y++hidL (H' y))[j]?=some o->ObOk g' w' j o/\(j<V.length->zH4 o=true->∃b,g'.blk j=some b/\∀c,g.blk j=some c->c=b):=by
    intro j o ho
    have h1:=hA.inv.ob j (if j<V.length then anch1 (g.blk j) o else o) (by rw[zPB s2,ho];rfl)
    by_cases hj:j<V.length
    ·rw[if_pos hj]at h1
     rw[qAG oM]at ho
     obtain⟨u1,u2⟩:=h1.unanch1 (qAI.1 k2 o (qAC ho))
     exact⟨u1,fun _ hb=>u2 hb⟩
    ·rw[if_neg hj]at h1;exact⟨h1,fun h=>absurd h hj⟩
   have hI:Inv g' w' (V' y++hidL (H' y)):=⟨by have:=hA.inv.n;simpa[zGN]using this,hA.inv.lt,hA.inv.dead,hA.inv.inj,fun j o ho=>(hob j o ho).1,hA.inv.st,hA.inv.gl⟩
   refine⟨hA.defers,v,hr,y,hy,v,g',rfl,hI,hrep',⟨hA.os,hA.tape,hA.output,hA.wsize,fun k hk hno=>hA.heap k hk (fun ⟨j,hj⟩=>hno j hj),hA.keep,fun b o hbo=>hA.new b o hbo,fun j b hj=>hA.own j b hj (qAO _),fun j o hj hob'=>?_⟩⟩
   rcases qAF j V.length with hjl|hjl
   ·rw[qAG hjl]at hj
    obtain⟨p,hp⟩:∃p,(V' y)[j]?=some p:=⟨_,qAB oM⟩
    have hs:=zFZ s1 j _ _ hj hp
    obtain⟨b',hb',hc'⟩:=(hob j p (by rw[qAG oM];exact hp)).2 hjl (zFj.2 (by rw[<-hs];exact zFj.1 hob'))
    obtain⟨b,o1⟩:=zOR (hi.ob j o (by rw[qAG hjl];exact hj)) hob'
    rw[hb',o1,hc' b o1]
   ·rw[qAD hjl,qAJ]at hj
    cases hq':H[j-V.length]? with
    |none=>rw[hq']at hj;cases hj
    |some q =>
     obtain⟨d',hd'⟩:=k3 _ q.1 q.2 hq'
     obtain⟨b,e1,us,o1,o2,o3,o4,o5,o6,o7⟩:=hi.ob j (.bx (some q.1) none [.d q.2]) (by rw[qAD hjl,qAJ,hq'];rfl)
     obtain⟨b2,e2,us2,p1,p2,p3,p4,p5,p6,p7⟩:=hI.ob j (.bx (some q.1) none [.d d']) (by rw[qAD oM,qAJ,<-s2,hd'];rfl)
     rw[o1,p1,<-o7.1 q.1 rfl,<-p7.1 q.1 rfl]
  cases e <;> first|exact fin hq|exact hq.elim
 ·refine⟨g,rfl,?_,hI0,rfl,rfl,rfl,qAN _,fun _ _ _=>rfl,Keep.refl g.St w,fun _ _ h=>.inl h,fun i b hb _=>.inr ⟨i,hb⟩,?_⟩
  ·simp[hlen];omega
  ·refine zHJ vs as 0 _ hrep fun j v hj=>?_
   have hjl:j<vs.length:=(qAA.1 hj).1
   simp only[qAS,qAQ]
   rw[qAl (by simpa using hjl)]
   simp[hj]
def rotπ(m p q k:Nat): Nat:=if k<m then k else if k<m+q then k+p else if k<m+q+p then k-q else k
theorem zWn{m p q i j:Nat}(h:rotπ m p q i=rotπ m p q j): i=j:=by
 unfold rotπ at h
 repeat' split at h
 all_goals omega
def rotG(m p q:Nat)(g:Gh): Gh:={ g with blk:=fun k=>g.blk (rotπ m p q k),cap:=fun k=>g.cap (rotπ m p q k),sz:=fun k=>g.sz (rotπ m p q k) }
section
variable {C:Ctx}{σ:Sl}{η:List Ob}
theorem Abs.rot{a:Act}{w:World}{vis A B:List Ob}{m:Nat}(hm:vis.length=m)(hσ:zFW m σ=true)(hv:vis.all (Ob.below m)=true)(hA:∀p∈A,p.below m=true)(hB:∀p∈B,p.below m=true)(hro:C.ro<=m)
  (h:Abs C σ (vis++(A++B)) a w):Abs C σ (vis++(B++A)) a w:=by
 obtain⟨g,ha⟩:=h
 have hgn:g.n=m+A.length+B.length:=by rw[ha.inv.n];simp;omega
 have hlow:∀k,k<m->(rotG m A.length B.length g).blk k=g.blk k/\(rotG m A.length B.length g).cap k=g.cap k/\(rotG m A.length B.length g).sz k=g.sz k:=fun k hk=>by
  have:rotπ m A.length B.length k=k:=by unfold rotπ;rw[if_pos hk]
  exact⟨congrArg g.blk this,congrArg g.cap this,congrArg g.sz this⟩
 have mv:∀{i j:Nat} {p:Ob},p.below m=true->rotπ m A.length B.length j=i->ObOk g w i p->ObOk (rotG m A.length B.length g) w j p:=fun {i j p} hp e h =>
  ObOk.move (g:=g) (g2:=rotG m A.length B.length g) (i:=i) (j:=j) hp oM (by show m<=g.n;omega) rfl hlow ⟨congrArg g.blk e,congrArg g.cap e,congrArg g.sz e⟩ h
 refine⟨rotG m A.length B.length g,{ ha with inv:=?_,own:=fun id b hb hr=>?_,rep:=fun t=>?_,keep:=ha.keep,new:=ha.new }⟩
 ·refine { n:=?_,lt:=fun id b hb=>ha.inv.lt _ b hb,dead:=fun id hid'=>?_,inj:=fun p q b hp hq=>zWn (ha.inv.inj _ _ b hp hq),ob:=fun id p hp=>?_,st:=ha.inv.st,gl:=ha.inv.gl }
  ·show g.n=_;rw[hgn];simp;omega
  ·have hid':g.n<=id:=hid'
   have:rotπ m A.length B.length id=id:=by unfold rotπ;rw[if_neg oM,if_neg oM,if_neg oM]
   show g.blk (rotπ m A.length B.length id)=none
   rw[this];exact ha.inv.dead id hid'
  ·rcases qAF id m with h1|h1
   ·rw[qAG oM]at hp
    refine mv (qAI.1 hv p (qAC hp)) (by unfold rotπ;rw[if_pos h1]) (ha.inv.ob id p ?_)
    rw[qAG oM];exact hp
   ·rw[qAD oM,hm]at hp
    rcases qAF (id-m) B.length with h2|h2
    ·rw[qAG h2]at hp
     refine mv (hB p (qAC hp)) (i:=id+A.length) (by unfold rotπ;rw[if_neg oM,if_pos oM]) (ha.inv.ob _ p ?_)
     rw[qAD oM,hm,qAD oM,show id+A.length-m-A.length=id-m by omega];exact hp
    ·rw[qAD h2]at hp
     have hl:=(qAA.1 hp).1
     refine mv (hA p (qAC hp)) (i:=id-B.length) (by unfold rotπ;rw[if_neg oM,if_neg oM,if_pos oM]) (ha.inv.ob _ p ?_)
     rw[qAD oM,hm,qAG oM,show id-B.length-m=id-m-B.length by omega];exact hp
 ·rcases qAF id m with h1|h1
  ·refine ha.own id b ?_ hr
   rw[<-(hlow id h1).1];exact hb
  ·refine ha.own (rotπ m A.length B.length id) b hb ?_
   unfold rotπ
   rw[if_neg oM]
   split
   ·omega
   ·split <;> omega
 ·refine RepS.ext (g:=cut g m) (g':=rotG m A.length B.length g) (Keep.refl g.St w) (fun k hk=>?_) (by show m<=g.n;omega) ((ha.rep t).cut (m:=m) oM (zIw hσ t))
  have hk2:k<m:=hk
  obtain⟨a1,a2,a3⟩:=hlow k hk2
  refine⟨?_,a2,a3⟩
  rw[a1];unfold cut;simp[hk2]
theorem zar{Q:Exit->Sl->List Ob->Prop}{c:Code}(H:List (Nat×D))(m k:Nat)(hη:η.drop (m+k)=hidL H)(hm:(η.take m).length=m)(hσ:zFW m σ=true)(hv:(η.take m).all (Ob.below m)=true)(hA:((η.drop m).take k).all (Ob.below m)=true)(hro:Nat.ble C.ro m=true)
  (h:awp C c Q σ (η.take m++(hidL H++(η.drop m).take k))):awp C c Q σ η:=by
 intro R hR a w hab
 refine h R hR a w ?_
 have e:η=η.take m++((η.drop m).take k++hidL H):=by
  rw[<-hη,<-qBs,qAi,qAi]
 rw[e]at hab
 exact hab.rot hm hσ hv (fun p hp=>qAI.1 hA p hp) (fun p hp=>zEC (qAO _) (zBF H p hp).bel) (qAM hro)
end
section
variable {C:Ctx}{ops:Array Oper}{rest:List Oper}{K:Sl->List Ob->Prop}{σ:Sl}{η:List Ob}{d:Nat}{ty:TypeId}{pos:String}{after:Array Edge}{gd:Option (Nat×Bool)}
theorem zWE{x:Operand}{cs:List D}{f:FuncId}{args:List Operand}{ts:Array TypeId}{as:List SV}{V:List Ob}{H:List (Nat×D)}{Y:Type}{ok:Y->Prop}{res:Y->SV}{V':Y->List Ob}{H':Y->List (Nat×D)}(m:Nat)(ids:List Nat)(hx:oval σ x=.d (.clo f cs))(hb:zAQ C.P f=true)(hc:zEg C.P f (as++cs.map SV.d) V H ok res V' H')
  (hη:η.drop m=hidL H) (hm:(η.take m).length=m) (hv:(η.take m).all (Ob.below m)=true) (hσ:zFW m σ=true) (ha:SArgs σ ids args as) (hp:Picks (η.take m) ids V) (hd:Nat.blt d C.N=true) (hn:ids.Nodup) (hlen:ids.length=V.length) (hids:ids.all (fun i=>Nat.blt i m)=true) (hu:zEr V=true)
  (hbl:V.all (Ob.below V.length)=true) (hba:as.all (SV.bel V.length)=true) (hro:Nat.ble C.ro m=true) (hroi:ids.all (fun i=>Nat.ble C.ro i)=true)
  (hk:∀y,ok y->zEw V (V' y)=true/\(V' y).all (Ob.below V.length)=true/\(res y).bel V.length=true/\∀(j b:Nat) (d:D),H[j]?=some (b,d)->∃d',(H' y)[j]?=some (b,d'))
  (h:∀y,ok y->alex C false ops rest K ((d,(res y).ren ids)::zGo (zCF ids V) ids σ) (zEX (zFC (zCF ids V) ids (η.take m)) ids ((V' y).map (Ob.ren ids))++hidL (H' y))) :
  zBJ C false ops ⟨some d,.call ⟨.value x,args.toArray,ts⟩,ty,pos,after,gd⟩ rest K σ η:=by
 intro Q hQ a w ⟨g,hg⟩ K' hK'
 have hro:=qAM hro
 have hids':∀i∈ids,i<m:=fun i hi=>by have:=qAI.1 hids i hi;simpa using this
 generalize hvis:η.take m=vis at *
 have heη:η=vis++hidL H:=by rw[<-hvis,<-hη,qAi]
 subst heη
 have hml:vis.length=m:=hm
 have hge:=zIW m H.length
 have hlen':(ids++List.range' m H.length).length=(V++hidU H).length:=by simp[hlen]
 have hn':(ids++List.range' m H.length).Nodup:=qBl.2 ⟨hn,List.nodup_range',fun a ha b hb e=>by subst e;have:=hids' a ha;have:=hge a hb;omega⟩
 have hp':Picks (vis++hidL H) (ids++List.range' m H.length) (V++hidU H):=by
  unfold Picks at hp ⊢
  rw[qAZ,qAZ]
  congr 1
  ·have e1:(ids.map fun i=>((vis++hidL H)[i]?).map Ob.forget)=ids.map fun i=>(vis[i]?).map Ob.forget:=qBP fun i hi=>by rw[qAG (by have:=hids' i hi;omega)]
   rw[e1,hp]
   exact qBP fun p hpm=>by rw[zKb (by rw[hlen];exact qAI.1 hbl p hpm)]
  ·refine qBk fun j=>?_
   rw[qAJ,qAJ,qAJ]
   rcases qAF j H.length with hj|hj
   ·rw[qBr hj,qAB hj]
    show some (((vis++hidL H)[m+1*j]?).map Ob.forget)=some (some _)
    rw[qAD oM,show m+1*j-vis.length=j by omega,qAJ,qAB hj];rfl
   ·rw[qAj pAK,qAj hj];rfl
 have hpu:zEr (V++hidU H)=true:=by
  unfold zEr at hu ⊢
  rw[qBp,hu,qA5]
  exact qAI.2 fun p hpm=>by obtain⟨q,_,rfl⟩:=qAo.1 hpm;rfl
 have hpb:(V++hidU H).all (Ob.below (V++hidU H).length)=true:=by
  rw[qBp,qAR]
  refine⟨qAI.2 fun p hpm=>zEC sI (qAI.1 hbl p hpm),qAI.2 fun p hpm=>?_⟩
  obtain⟨q,_,rfl⟩:=qAo.1 hpm;rfl
 have hI0:=hg.inv.callee hn' hlen' hp' hpu hpb
 have hI1:Inv (zCG g (ids++List.range' m H.length)) w (V++hidL H):=by
  refine { hI0 with n:=by rw[hI0.n];simp,ob:=fun id o ho=>?_ }
  rcases qAF id V.length with h1|h1
  ·rw[qAG h1]at ho
   exact hI0.ob id o (by rw[qAG h1];exact ho)
  ·rw[qAD h1,qAJ]at ho
   cases hq:H[id-V.length]? with
   |none=>rw[hq]at ho;cases ho
   |some q =>
    rw[hq]at ho;injection ho with ho;subst ho
    have hjl:=(qAA.1 hq).1
    obtain⟨b,e,us,o1,o2,o3,o4,o5,o6,o7⟩:=hI0.ob id (.bx none none [.d q.2]) (by rw[qAD h1,qAJ,hq];rfl)
    obtain⟨b2,e2,us2,p1,p2,p3,p4,p5,p6,p7⟩:=hg.inv.ob (m+(id-V.length)) (.bx (some q.1) none [.d q.2]) (by rw[qAD oM,qAJ,show m+(id-V.length)-vis.length=id-V.length by omega,hq];rfl)
    refine⟨b,e,us,o1,o2,o3,o4,o5,o6,(fun c hc=>?_),o7.2⟩
    have hc2:=p7.1 c hc
    have hgi:(zCG g (ids++List.range' m H.length)).blk id=g.blk (m+(id-V.length)):=by
     show ((ids++List.range' m H.length)[id]?).bind g.blk=_
     rw[qAD oM,qBr oM,show m+1*(id-ids.length)=m+(id-V.length) by omega];rfl
    rw[hgi,p1]at o1
    injection o1 with o1
    rw[hc2,o1]
 have hba':as.all (SV.bel (V++hidU H).length)=true:=qAI.2 fun s hs=>by
  have:=zEC (m:=V.length) (n:=(V++hidU H).length) sI (p:=.bx none none [s]) (by show (s.bel V.length&&true)=true;rw[qAI.1 hba s hs];rfl)
  have h2:(s.bel (V++hidU H).length&&true)=true:=this
  simpa using h2
 have ha':SArgs σ (ids++List.range' m H.length) args as:=by
  have key:∀(xs:List Operand) (ss:List SV),ss.all (SV.bel V.length)=true->SArgs σ ids xs ss->SArgs σ (ids++List.range' m H.length) xs ss:=by
   intro xs
   induction xs with
   |nil=>intro ss _ h;cases ss with
    |nil=>exact h
    |cons=>exact h.elim
   |cons x xs ih=>intro ss hs h;cases ss with
    |nil=>exact h.elim
    |cons s ss =>
     simp only[qBn,qAR]at hs
     exact⟨by rw[zKa (by rw[hlen];exact hs.1)];exact h.1,ih ss hs.2 h.2⟩
  exact key args as hba ha
 obtain⟨e1,e2⟩:=ha'.rep hg
 unfold Oper.wp
 have hxr:=hg.eval x;rw[hx]at hxr
 obtain⟨ws,hwv,hwl,hws⟩:∃ws:List Value,a.eval x=.func (.func f) #[] ws.toArray/\ws.length=cs.length/\∀(j:Nat) (u:Value) (d:D),ws[j]?=some u->cs[j]?=some d->RepD g.St w u d:=by
  change RepD _ _ _ _ at hxr
  generalize a.eval x=v at hxr
  cases hxr with
  |clo f vs ds hl h=>exact⟨vs,rfl,hl,h⟩
 have hrun:(execOp a.eval ⟨some d,.call ⟨.value x,args.toArray,ts⟩,ty,pos,after,gd⟩).run C.P w=.ok (.enter f (args.map a.eval++ws).toArray) w:=by
  simp only[execOp,resolve,hwv,Deferred.ofValue,invoke,Sem.run_bind,Sem.run_pure,Result.andThen_ok,qA4,qBW]
  rw[List.append_toArray]
  exact zDG hb
 have e2':∀(j:Nat) v s,(args.map a.eval++ws)[j]?=some v->(as++cs.map SV.d)[j]?=some s->RepS g w v (s.ren (ids++List.range' m H.length)):=by
  intro j v s hv hs
  rcases qAF j as.length with hj|hj
  ·rw[qAG (by simp[e1];exact hj)]at hv
   rw[qAG hj]at hs
   exact e2 j v s hv hs
  ·rw[qAD (by simp[e1];exact hj)]at hv
   rw[qAD hj,qAJ]at hs
   rw[qAE,e1]at hv
   cases hq:cs[j-as.length]? with
   |none=>rw[hq]at hs;cases hs
   |some q =>
    rw[hq]at hs;injection hs with hs;subst hs
    exact hws _ v q hv hq
 rw[hrun,Oper.upon_enter]
 have hr:=RepSs.callee (g:=g) (w:=w) hlen' (args.map a.eval++ws) (as++cs.map SV.d) e2' (by simp[e1,hwl]) (by
  rw[qBp,hba',qA5]
  exact qAI.2 fun s hs=>by obtain⟨d,_,rfl⟩:=qAo.1 hs;rfl)
 refine(hc _ w _ hI1 hr).mono fun e w' ⟨y,hy,v,g',he,hI,hres,hF⟩=>?_
 subst he
 obtain⟨k1,k2,k3,k4⟩:=hk y hy
 obtain⟨s1,s2⟩:=zD2 k1
 have hle:H.length<=(H' y).length:=by
  rcases qAF (H' y).length H.length with h|h
  ·obtain⟨d',h'⟩:=k4 (H' y).length (H[(H' y).length]).1 (H[(H' y).length]).2 (by rw[qAB h])
   rw[qAj (qAN _)]at h';cases h'
  ·exact h
 obtain⟨g2,h1,h2⟩:=hg.called hn' hlen' hp' (zFY k1 hle) (by
  rw[qBp,hroi,qA5]
  exact qAI.2 fun i hi=>Nat.ble_eq_true_of_le (qAx hro (hge i hi))) hI hres hF
 have eb:zCF (ids++List.range' m H.length) (V++hidU H)=zCF ids V:=zJV hlen sI
 rw[zS9 hml hlen s2.symm hids' hn hv k2 k4,eb,zKM hge hσ]at h1
 have e3:(res y).ren (zFE (ids++List.range' m H.length) (vis++hidL H).length (V++hidU H) (V' y++hidL (H' y)))=(res y).ren ids:=by
  unfold zFE
  rw[qAY]
  exact zKa (by rw[hlen];exact k3)
 rw[e3]at h2
 exact hK' _ _ (h y hy Q hQ _ w' ⟨g2,h1.put (d:=some d) hd h2⟩)
end
def Met(P:Program)(t:TypeId)(name:String)(f:FuncId): Prop:=∀(v:Value) (w:World),(method (P.types.size+Made.depth) t v name).run P w=.ok (f,v) w
def metB(P:Program)(t:TypeId)(name:String)(f:FuncId): Bool :=
 match P.info? t with
 |some i=>match i.methods.find? (·.name==name),P.underlying t with
  |some m,some u=>m.path.isEmpty&&(match m.func,u with
   |some (g,true),.pointer _=>g==f
   |some (_,false),.pointer _=>false
   |some (g,false),_=>g==f
   |_,_=>false)
  |_,_=>false
 |none=>false
theorem zL1{P:Program}{t:TypeId}{name:String}{f:FuncId}(h:metB P t name f=true): Met P t name f:=by
 intro v w
 unfold metB at h
 split at h
 ·rename_i i hi
  split at h
  ·rename_i m u hm hu
   simp only[qAR]at h
   obtain⟨h1,h2⟩:=h
   have e:P.types.size+Made.depth=(P.types.size+(Made.depth-1))+1:=by(have h:1<=Made.depth:=dC);omega
   rw[e]
   have hp:m.path.toList=[]:=by simpa[Array.isEmpty_iff]using h1
   have ht:(typeInfo t).run P w=.ok i w:=by unfold typeInfo;simp[Sem.run_bind,run_program,hi]
   have hu':(underlying t).run P w=.ok u w:=by unfold underlying;simp[Sem.run_bind,run_program,hu]
   unfold method
   simp only[Sem.run_bind,ht,Result.andThen_ok,hm,hp,follow,Sem.run_pure]
   split at h2
   ·rename_i q g el hq
    have:g=f:=by simpa using h2
    subst this
    simp[hq,receiverAt,Sem.run_bind,hu',Place.get]
   ·cases h2
   ·rename_i u1 _ _ g hq hne
    have:g=f:=by simpa using h2
    subst this
    cases u1 <;> first|exact(hne _ rfl).elim|simp[hq,receiverAt,Sem.run_bind,hu',Place.get]
   ·cases h2
  ·cases h
 ·cases h
section
variable {P:Program}{η:List Ob}{σ:Sl}{dst:Option Nat}{ty:TypeId}{pos:String}{after:Array Edge}{gd:Option (Nat×Bool)}
end
open Go.RowKit
section
variable {P:Program}{η:List Ob}{σ:Sl}{dst:Option Nat}{ty:TypeId}{pos:String}{after:Array Edge}{gd:Option (Nat×Bool)}
theorem zDr{t:TypeId}{x:Operand}{d:D}(hx:oval σ x=.d d)(hk:okc d=true): Ylds P η σ ⟨dst,.box t x,ty,pos,after,gd⟩ (.d (.ref d.flat)):=by
 intro g w a hinv hop
 refine .inl ?_
 have hr:=hop x sO
 rw[hx]at hr
 obtain⟨h1,h2,h3⟩:=hr.cells (zKV hk)
 rw[qAE]at h1
 generalize hv:a.eval x=v at *
 let g':Gh:={ g with St:=fun b o=>g.St b o\/(b=w.heap.size/\o<v.cells.size) }
 have hgr:Grow g w g' (w.alloc (.cells v.cells t)):=⟨rfl,rfl,rfl,rfl,rfl,rfl,rfl,by simp,fun k hk=>Below.heap_alloc w _ k hk,fun _ _ h=>.inl h,fun b o h=>h.imp_right fun h=>by omega,fun b o h=>by
  rcases h with h|h
  ·exact qAc (hinv.st b o h) sI
  ·rw[h.1];simp⟩
 refine⟨.pointer (some ⟨w.heap.size,0,none⟩),g',w.alloc (.cells v.cells t),by simp[execOp,Instr.box,newVar,newRow,hv],hgr,?_⟩
 refine RepD.ref ⟨w.heap.size,0,none⟩ v.cells.toList d.flat (by rw[qAV,h1]) (fun u hu=>h2 u pAI) (fun j u hu=>⟨.inr ⟨rfl,?_⟩,?_⟩) fun j u e hu he=>?_
 ·have:=(qAA.1 hu).1
  simpa using this
 ·rw[Addr.add_lit,qAS,cell_of_row _ _ j v.cells t (0,0) (_root_.Go.heap_alloc_new w _)]
  simpa using hu
 ·have h4:RepD g.St w u e:=h3 j u (.d e) pAI (by rw[qAJ,he];rfl)
  exact h4.keep (hgr.keep hinv.st)
theorem RepDs.get{St:Stab}{w:World}: ∀{vs:List Value} {ds:List D},RepDs St w vs ds->∀(j:Nat) (u:Value) (d:D),vs[j]?=some u->ds[j]?=some d->RepD St w u d
 |[],[],_,j,u,d,h,_=>by simp at h
 |v::vs,d::ds,h,0,u,e,hu,he=>by injection hu with hu;injection he with he;subst hu he;exact h.1
 |v::vs,d::ds,h,j+1,u,e,hu,he=>RepDs.get h.2 j u e pAI (by simpa using he)
 |[],_::_,h,_,_,_,_,_=>h.elim
 |_::_,[],h,_,_,_,_,_=>h.elim
theorem zHQ{f:FuncId}{xs:List Operand}{ds:List D}(hc:CoL η σ xs ds): Ylds P η σ ⟨dst,.makeFunc (.func f) #[] xs.toArray,ty,pos,after,gd⟩ (.d (.clo f ds)):=by
 intro g w a hi hop
 have hr:=CoL.rep (a:=a) hi xs ds (fun y hm=>hop y (by simp[Op.operands,hm])) hc
 refine .inl ⟨.func (.func f) #[] (xs.map a.eval).toArray,g,w,by simp[execOp,Instr.makeFunc],Grow.refl hi.st,?_⟩
 exact .clo f (xs.map a.eval) ds hr.len hr.get
theorem Ylds.dref{o:Oper}{s:SV}{k:Nat}{cs:List D}(hk:get σ k=.d (.ref cs))(h:Ylds P η ((k,.rptr cs)::σ) o s): Ylds P η σ o s:=by
 intro g w a hi hx
 refine h g w a hi fun x hm=>?_
 have h1:=hx x hm
 cases x with
 |tmp j =>
  show RepS g w (a.eval (.tmp j)) (get ((k,.rptr cs)::σ) j)
  rw[zBl]
  split
  ·rename_i e;subst e
   have h2:RepS g w (a.eval (.tmp k)) (get σ k):=h1
   rw[hk]at h2
   exact RepD.rptr h2
  ·exact h1
 |_=>exact h1
theorem zEe{t:TypeId}{k f off:Nat}{cs:List D}(hx:get σ k=.d (.ref cs))(hf:zA7 P t f=some off): Ylds P η σ ⟨dst,.fieldAddr t (.tmp k) f,ty,pos,after,gd⟩ (.rptr (cs.drop off)) :=
 Ylds.dref hx (zAs (by simp[oval,zBl]) hf)
theorem zPI{t:TypeId}{k n:Nat}{cs:List D}(hx:get σ k=.d (.ref cs))(ht:zBh P t=some (true,n))(hn:Nat.ble n cs.length=true): Ylds P η σ ⟨dst,.load t (.tmp k),ty,pos,after,gd⟩ (.d (.agg (cs.take n))) :=
 Ylds.dref hx (zAl (by simp[oval,zBl]) ht hn)
theorem zDq{x:Operand}{cs:List D}(hx:oval σ x=.d (.ref cs)): Ylds P η σ ⟨dst,.nilCheck x,ty,pos,after,gd⟩ (.rptr cs):=by
 refine Ylds.same fun g w a hi h=>⟨a.eval x,?_,?_⟩
 ·have h1:=h x sO;rw[hx]at h1
  obtain⟨ad,us,hv,_⟩:=RepD.rptr h1
  simp[execOp,hv]
 ·have h1:=h x sO;rw[hx]at h1;exact RepD.rptr h1
theorem zQH{t yt:TypeId}{x y:Operand}{cs:List D}(hx:oval σ x=.d (.ref cs))(hy:oval σ y=.d (.val (.pointer none)))(hu:P.underlying t=some (.pointer (P.pointee t))): Ylds P η σ ⟨dst,.binOp .neq t x y yt,ty,pos,after,gd⟩ (.d (.val (.bool true))):=by
 refine Ylds.same fun g w a hi h=>⟨.bool true,?_,.val _⟩
 have h1:=h x sO;rw[hx]at h1
 have h2:=h y sO;rw[hy]at h2
 obtain⟨ad,us,hv,_⟩:=RepD.rptr h1
 have:=run_neq_pointer_nil (P:=P) w t (some ad) hu
 simp only[execOp,hv,RepD.val_eq h2,eqGuard_at_pointer,Sem.run_bind,Sem.run_pure,Result.andThen_ok,this]
 rfl
theorem zS6{t yt:TypeId}{x y:Operand}(hx:oval σ x=.d (.val (.pointer none)))(hy:oval σ y=.d (.val (.pointer none)))(hu:P.underlying t=some (.pointer (P.pointee t))): Ylds P η σ ⟨dst,.binOp .neq t x y yt,ty,pos,after,gd⟩ (.d (.val (.bool false))):=by
 refine Ylds.same fun g w a hi h=>⟨.bool false,?_,.val _⟩
 have h1:=h x sO;rw[hx]at h1
 have h2:=h y sO;rw[hy]at h2
 have:=run_neq_pointer_nil (P:=P) w t none hu
 simp only[execOp,RepD.val_eq h1,RepD.val_eq h2,eqGuard_at_pointer,Sem.run_bind,Sem.run_pure,Result.andThen_ok,this]
 rfl
end
section
variable {C:Ctx}{σ:Sl}{η:List Ob}{d:Nat}
theorem zDI{Q:Exit->Sl->List Ob->Prop}{c:Code}(hid:List Ob)(m:Nat){o:Ob}{n:Nat}(hn:η.length=n)(hη:η.drop m=hid)(hm:(η.take m).length=m)(hσ:zFW m σ=true)(hv:(η.take m).all (Ob.below m)=true)(hh:∀p∈hid,dataOb p)(ho:o.below m=true)(hro:Nat.ble C.ro m=true)
  (h:awp C c Q ((d,.ptr m 0)::σ) (η.take m++(o::hid))):awp C c Q ((d,.ptr n 0)::σ) (η++[o]):=by
 intro R hR a w hab
 refine h R hR a w ?_
 have e:η++[o]=η.take m++(hid++[o]):=by rw[<-hη,<-qAY,qAi]
 have hl:hid.length+m=η.length:=by
  rw[<-hη,qAg]
  rw[qAU]at hm;omega
 rw[e,<-hn]at hab
 exact hab.ins hm hl hσ hv (fun p hp=>(hh p hp).bel) ho (qAM hro)
end
end Go.Sx
namespace Go.Sx
section
variable {C:Ctx}{ops:Array Oper}{rest:List Oper}{K:Sl->List Ob->Prop}{σ:Sl}{η:List Ob}{d:Nat}{ty:TypeId}{pos:String}{after:Array Edge}{gd:Option (Nat×Bool)}
theorem zZz{g:Gh}{a:Act}{w:World}(hg:AbsG C g σ η a w){x:Operand}{name:String}{T:TypeId}{e:D}{f:FuncId}{args:List Operand}{ts:Array TypeId}{dst:Option Nat}(hx:oval σ x=.d (.ifc T e))(hm:Met C.P T name f)(hb:zAQ C.P f=true):
  ∃v,RepD g.St w v e/\(execOp a.eval ⟨dst,.call ⟨.invoke x name,args.toArray,ts⟩,ty,pos,after,gd⟩).run C.P w=.ok (.enter f (v::args.map a.eval).toArray) w:=by
 have hv:=hg.eval x
 rw[hx]at hv
 obtain⟨v,hv1,hv2⟩:=zPr hv
 refine⟨v,hv2,?_⟩
 have e:((#[(Value.iface T v)]++(args.toArray.map a.eval)).extract 1 (#[(Value.iface T v)]++(args.toArray.map a.eval)).size)=(args.map a.eval).toArray:=by
  simp[List.take_of_length_le]
 simp only[execOp,resolve,hv1,invoke,callMethod,Sem.run_bind,Sem.run_pure,Result.andThen_ok]
 rw[e]
 simp[hm v w,Sem.run_bind,run_program]
 have h:=zDG (args:=(v::args.map a.eval).toArray) (w:=w) hb
 simpa using h
theorem zQG{x:Operand}{name:String}{T:TypeId}{e:D}{f:FuncId}{args:List Operand}{ts:Array TypeId}{as:List SV}{pre post:List Ob}{res:SV}(ids:List Nat)(hx:oval σ x=.d (.ifc T e))(hm:Met C.P T name f)(hb:zAQ C.P f=true)(hc:zBR C.P f (.d e::as) pre res post)(ha:SArgs σ ids args as)(hp:Picks η ids pre)(hd:Nat.blt d C.N=true)
  (hn:ids.Nodup) (hlen:ids.length=pre.length) (hu:zEr pre=true) (hbl:pre.all (Ob.below pre.length)=true) (hba:as.all (SV.bel pre.length)=true) (hk:zDE pre post=true) (hro:ids.all (fun i=>Nat.ble C.ro i)=true)
  (h:alex C false ops rest K ((d,res.ren (zFE ids η.length pre post))::zGo (zCF ids pre) ids σ) (ηOf ids pre post η)) :
  zBJ C false ops ⟨some d,.call ⟨.invoke x name,args.toArray,ts⟩,ty,pos,after,gd⟩ rest K σ η:=by
 intro Q hQ a w ⟨g,hg⟩ K' hK'
 obtain⟨e1,e2⟩:=ha.rep hg
 unfold Oper.wp
 obtain⟨v,hv,hrun⟩:=zZz (ty:=ty) (pos:=pos) (after:=after) (gd:=gd) (args:=args) (ts:=ts) (dst:=some d) hg hx hm hb
 rw[hrun,Oper.upon_enter]
 have hr:=RepSs.callee (g:=g) (w:=w) hlen (v::args.map a.eval) (.d e::as) (fun j u s hu hs=>by
  cases j with
  |zero=>injection hu with hu;injection hs with hs;subst hu hs;exact hv
  |succ j=>exact e2 j u s pAI (by simpa using hs)) (by simp[e1]) (by show (true&&as.all _)=true;rw[hba];rfl)
 refine(hc (zCG g ids) w _ (hg.inv.callee hn hlen hp hu hbl) hr).mono fun e w' ⟨v,g',he,hI,hres,hF⟩=>?_
 subst he
 obtain⟨g2,h1,h2⟩:=hg.called hn hlen hp hk hro hI hres hF
 exact hK' _ _ (h Q hQ _ w' ⟨g2,h1.put (d:=some d) hd h2⟩)
theorem zax{x:Operand}{name:String}{T:TypeId}{e:D}{f:FuncId}{args:List Operand}{ts:Array TypeId}{as:List SV}{pre post:List Ob}{res:SV}(ids:List Nat)(hx:oval σ x=.d (.ifc T e))(hm:Met C.P T name f)(hb:zAQ C.P f=true)(hc:zBR C.P f (.d e::as) pre res post)(ha:SArgs σ ids args as)(hp:Picks η ids pre)(hd:Nat.blt d C.N=true)
  (hn:ids.Nodup) (hlen:ids.length=pre.length) (hu:zEr pre=true) (hbl:pre.all (Ob.below pre.length)=true) (hba:as.all (SV.bel pre.length)=true) (hk:zEw pre post=true) (hro:ids.all (fun i=>Nat.ble C.ro i)=true)
  (h:alex C false ops rest K ((d,res.ren ids)::zGo (zCF ids pre) ids σ) (zEX (zFC (zCF ids pre) ids η) ids (post.map (Ob.ren ids)))) :
  zBJ C false ops ⟨some d,.call ⟨.invoke x name,args.toArray,ts⟩,ty,pos,after,gd⟩ rest K σ η:=by
 obtain⟨hk1,hk2⟩:=zD2 hk
 obtain⟨e3,e4⟩:=zMT (ids:=ids) (η:=η) hk2
 refine zQG ids hx hm hb hc ha hp hd hn hlen hu hbl hba hk1 hro ?_
 rw[e3,e4];exact h
end
