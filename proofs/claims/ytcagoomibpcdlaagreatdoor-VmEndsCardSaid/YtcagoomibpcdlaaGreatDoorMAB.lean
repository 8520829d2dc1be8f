/- Parts of the proof. -/
import Derived.Laws.Sem
import Derived.MapKept
import Derived.Maps.RangeRun
import Derived.Laws.Cover3
import Derived.Deep.AppendSrc
import Derived.Test.YtcagoomibpcdlaaGreatDoorMAA
set_option maxHeartbeats 16000000
namespace Go.Sx
open Go.RowKit Go.Lib
def zL7(tmps:Array Value): ResultVar->Sem Value
 | .tmp t=>pure (tmps.getD t undef)
 | .cell a t=>do loadVar t (<-asAddr (tmps.getD a undef))
theorem zOl{P:Program}{w:World}{tmps:Array Value}: ∀(l:List ResultVar) (vs:List Value),l.length=vs.length->(∀(j:Nat) r v,l[j]?=some r->vs[j]?=some v->(zL7 tmps r).run P w=.ok v w)->(l.mapM (zL7 tmps)).run P w=.ok vs w
 |[],[],_,_=>rfl
 |r::l,v::vs,hl,h=>by
  have h0:=h 0 r v rfl rfl
  have ih:=zOl l vs (by simpa using hl) (fun j r v h1 h2=>h (j+1) r v (by simpa using h1) (by simpa using h2))
  rw[List.mapM_cons]
  simp only[Sem.run_bind,h0,Result.andThen_ok,ih,Sem.run_pure]
 |[],_::_,hl,_=>by simp at hl
 |_::_,[],hl,_=>by simp at hl
def tupV: List Value->Value
 |[v]=>v
 |vs=>.tuple vs.toArray
theorem zIa{P:Program}{w:World}{fn:Func}{tmps:Array Value}{l:List ResultVar}{vs:List Value}(hrs:fn.results=l.toArray)(hl:l.length=vs.length)(h:∀(j:Nat) r v,l[j]?=some r->vs[j]?=some v->(zL7 tmps r).run P w=.ok v w): (results fn tmps).run P w=.ok (tupV vs) w:=by
 have h1:=zOl l vs hl h
 have e:results fn tmps=(do let vs <-fn.results.mapM (zL7 tmps);pure (if h:vs.size=1 then vs[0]else .tuple vs)):=by
  unfold results;congr 2
 rw[e,hrs,Array.mapM_eq_mapM_toList]
 simp only[Sem.run_bind,Sem.run_map,h1,Sem.run_pure,Result.andThen_ok]
 match vs with
 |[]=>rfl
 |[v]=>rfl
 |v::u::r=>simp[tupV]
def CoV(η:List Ob): List SV->List D->Prop
 |[],[]=>True
 |s::ss,d::ds=>Co η s d/\CoV η ss ds
 |_,_=>False
theorem CoV.len{η:List Ob}: ∀{ss:List SV} {ds:List D},CoV η ss ds->ss.length=ds.length
 |[],[],_=>rfl
 |_::_,_::_,h=>by simp[CoV.len h.2]
 |[],_::_,h=>h.elim
 |_::_,[],h=>h.elim
theorem CoV.get{η:List Ob}: ∀{ss:List SV} {ds:List D},CoV η ss ds->∀(j:Nat) s d,ss[j]?=some s->ds[j]?=some d->Co η s d
 |s::ss,d::ds,h,0,s',d',h1,h2=>by simp at h1 h2;subst h1;subst h2;exact h.1
 |s::ss,d::ds,h,j+1,s',d',h1,h2=>CoV.get h.2 j s' d' (by simpa using h1) (by simpa using h2)
 |[],[],_,j,_,_,h1,_=>by simp at h1
 |[],_::_,h,_,_,_,_,_=>h.elim
 |_::_,[],h,_,_,_,_,_=>h.elim
theorem zWE{η:List Ob}: ∀{ss:List SV} {ds:List D},toDs ss=some ds->CoV η ss ds
 |[],ds,h=>by simp[toDs]at h;subst h;trivial
 |s::r,ds,h=>by
  cases s <;> simp only[toDs]at h
  all_goals first
   |(cases h;done)
   |(cases h2:toDs r with
     |none=>rw[h2]at h;cases h
     |some ds'=>rw[h2]at h;cases h;exact⟨by first|exact rfl|exact .inl rfl,zWE h2⟩)
def RVal(P:Program)(σ:Sl)(η:List Ob): ResultVar->D->Prop
 | .tmp r,d=>Co η (get σ r) d
 | .cell a t,d=>∃id o n kb et cs,get σ a=.ptr id o/\η[id]?=some (.bx kb et cs)/\
   ((zBL P t=some (true,n)/\o+n<=cs.length/\∃ds,CoV η ((cs.drop o).take n) ds/\d=.agg ds)\/(zBL P t=some (false,n)/\∃s,cs[o]?=some s/\Co η s d))
def RVals(P:Program)(σ:Sl)(η:List Ob): List ResultVar->List D->Prop
 |[],[]=>True
 |r::rs,d::ds=>RVal P σ η r d/\RVals P σ η rs ds
 |_,_=>False
def ResC(P:Program)(rs:Array ResultVar)(σ:Sl)(η:List Ob)(res:D): Prop :=
 match rs.toList,res with
 |[r],d=>RVal P σ η r d
 |l,.tup ds=>RVals P σ η l ds
 |_,_=>False
def zBc(P:Program)(rs:Array ResultVar)(res:D): Exit->Sl->List Ob->Prop
 | .ret,σ,η=>ResC P rs σ η res
 | .normal,σ,η=>ResC P rs σ η res
 |_,_,_=>False
theorem zBQ{P:Program}{rs:Array ResultVar}{res:D}{σ:Sl}{η:List Ob}(h:ResC P rs σ η res): zBc P rs res .ret σ η:=h
section
variable {P:Program}{σ:Sl}{η:List Ob}
theorem zBp{r1 r2:ResultVar}{rs:List ResultVar}{ds:List D}(h:RVals P σ η (r1::r2::rs) ds): ResC P (r1::r2::rs).toArray σ η (.tup ds):=h
theorem zT8{r:ResultVar}{d:D}(h:RVals P σ η [r] [d]): ResC P [r].toArray σ η d:=h.1
theorem zCh: RVals P σ η [] []:=trivial
theorem RV_d{r:Nat}{d d':D}{rs:List ResultVar}{ds:List D}(h:get σ r=.d d')(h2:RVals P σ η rs ds)(e:d'=d): RVals P σ η (.tmp r::rs) (d::ds):=by
 subst e;exact⟨by show Co η (get σ r) _;rw[h];rfl,h2⟩
theorem RV_n{r:Nat}{rs:List ResultVar}{ds:List D}{d:D}(h:get σ r=.nil)(h2:RVals P σ η rs ds)(e:D.slice []=d): RVals P σ η (.tmp r::rs) (d::ds):=by
 subst e;exact⟨by show Co η (get σ r) _;rw[h];exact .inl rfl,h2⟩
theorem RV_b{r:Nat}{rs:List ResultVar}{ds:List D}{d:D}{id n e sz:Nat}{xs:List D}(h:get σ r=.buf id n)(ho:η[id]?=some (.buf false e sz xs))(hn:n=xs.length)(h2:RVals P σ η rs ds)(he:D.slice xs=d): RVals P σ η (.tmp r::rs) (d::ds):=by
 subst he;exact⟨by show Co η (get σ r) _;rw[h];exact zF3 ho hn,h2⟩
theorem RV_c{a t id o n:Nat}{kb:Option Nat}{et:Option TypeId}{cs:List SV}{ds':List D}{d:D}{rs:List ResultVar}{ds:List D}(h:get σ a=.ptr id o)(ho:η[id]?=some (.bx kb et cs))(ht:zBL P t=some (true,n))(hl:Nat.ble (o+n) cs.length=true)(hs:toDs ((cs.drop o).take n)=some ds')(h2:RVals P σ η rs ds)(e:D.agg ds'=d): RVals P σ η (.cell a t::rs) (d::ds):=by
 subst e;exact⟨⟨id,o,n,kb,et,cs,h,ho,.inl ⟨ht,qAM hl,ds',zWE hs,rfl⟩⟩,h2⟩
end
theorem RVal.run{P:Program}{r:ResultVar}{σ:Sl}{η:List Ob}{d:D}{g:Gh}{w:World}{a:Act}{C:Ctx}(h:RVal P σ η r d)(ha:AbsG C g σ η a w): ∃v,(zL7 a.tmps r).run P w=.ok v w/\RepD g.St w v d:=by
 cases r with
 |tmp r=>exact⟨_,rfl,Co.rep ha.inv (ha.rep r) h⟩
 |cell r t =>
  obtain⟨id,o,n,kb,et,cs,h0,ho,h⟩:=h
  have h1:=ha.rep r;rw[h0]at h1
  obtain⟨hid,b,hb,hv⟩:=h1
  obtain⟨b',e,us,h2,h3,h4,h5,h6,h7,_⟩:=ha.inv.ob id _ ho
  rw[hb]at h2;injection h2 with h2;subst h2
  rcases h with⟨ht,hl,ds,hs,rfl⟩|⟨ht,s,hs,hc⟩
  ·have hrun:=run_loadCells_list (P:=P) w ⟨b,o,none⟩ ((us.toList.drop o).take n) (fun j v hj=>by
    rw[qAR]at hj
    split at hj
    ·rw[Addr.add_lit,cell_of_row w b _ us e (0,0) h3]
     simpa using hj
    ·cases hj)
   have hlen:((us.toList.drop o).take n).length=n:=by rw[qAK,qAb,qAS];omega
   rw[hlen]at hrun
   have e1:=hs.len
   have hcl:((cs.drop o).take n).length=n:=by rw[qAK,qAb];omega
   refine⟨.agg ((us.toList.drop o).take n).toArray,?_,.agg _ _ (by omega) (fun u hm=>h5 u (Array.mem_toList_iff.1 (qAn (qAY hm)))) (fun j u d hj hd=>?_)⟩
   ·simp only[zL7,hv,asAddr,loadVar,Sem.run_bind,Sem.run_pure,Result.andThen_ok,(zBt ht w).1,(zBt ht w).2,if_true,hrun]
   ·have hjl:j<n:=by
     have:=(qAA.1 hj).1;omega
    have hsj:((cs.drop o).take n)[j]?=some (((cs.drop o).take n)[j]'(by omega)):=qAB (by omega)
    refine Co.rep ha.inv (h6 (o+j) u _ ?_ ?_) (hs.get j _ d hsj hd)
    ·rw[qAR,if_pos hjl]at hj;simpa using hj
    ·rw[<-hsj,qAR,if_pos hjl];simp
  ·have hlt:o<us.size:=by rw[h4];exact(qAA.1 hs).1
   refine⟨us[o],?_,Co.rep ha.inv (h6 o _ _ (qAI hlt) hs) hc⟩
   have hcell:w.cell? ⟨b,o,none⟩=some us[o]:=by rw[cell_of_row w b o us e (0,0) h3];exact qAI hlt
   simp[zL7,hv,asAddr,loadVar,(zBt ht w).1,hcell]
theorem RVals.run{P:Program}{σ:Sl}{η:List Ob}{g:Gh}{w:World}{a:Act}{C:Ctx}(ha:AbsG C g σ η a w): ∀{rs:List ResultVar} {ds:List D},RVals P σ η rs ds->∃vs:List Value,rs.length=vs.length/\vs.length=ds.length/\(∀(j:Nat) r v,rs[j]?=some r->vs[j]?=some v->(zL7 a.tmps r).run P w=.ok v w)/\∀(j:Nat) v d,vs[j]?=some v->ds[j]?=some d->RepD g.St w v d
 |[],[],_=>⟨[],rfl,rfl,fun j r v h=>by simp at h,fun j v d h=>by simp at h⟩
 |r::rs,d::ds,h=>by
  obtain⟨v,h1,h2⟩:=h.1.run ha
  obtain⟨vs,e1,e2,e3,e4⟩:=RVals.run ha h.2
  refine⟨v::vs,by simp[e1],by simp[e2],fun j r' v' hr hv=>?_,fun j v' d' hv hd=>?_⟩
  ·cases j with
   |zero=>simp at hr hv;subst hr;subst hv;exact h1
   |succ j=>exact e3 j r' v' (by simpa using hr) (by simpa using hv)
  ·cases j with
   |zero=>simp at hv hd;subst hv;subst hd;exact h2
   |succ j=>exact e4 j v' d' (by simpa using hv) (by simpa using hd)
 |[],_::_,h=>h.elim
 |_::_,[],h=>h.elim
theorem ResC.run{rs:Array ResultVar}{σ:Sl}{η:List Ob}{res:D}{P:Program}{fn:Func}{g:Gh}{w:World}{a:Act}{C:Ctx}(hrs:fn.results=rs)(h:ResC P rs σ η res)(ha:AbsG C g σ η a w): ∃v,(results fn a.tmps).run P w=.ok v w/\RepD g.St w v res:=by
 obtain⟨rl⟩:=rs
 unfold ResC at h
 split at h
 ·rename_i r hr
  simp at hr;subst hr
  obtain⟨v,h1,h2⟩:=h.run ha
  refine⟨v,zIa (l:=[r]) (vs:=[v]) hrs rfl (fun j r' v' hr hv=>?_),h2⟩
  cases j with
  |zero=>simp at hr hv;subst hr;subst hv;exact h1
  |succ j=>simp at hr
 ·rename_i ds hne
  obtain⟨vs,e1,e2,e3,e4⟩:=RVals.run ha h
  refine⟨tupV vs,zIa hrs e1 e3,?_⟩
  have e5:tupV vs=.tuple vs.toArray:=by
   match vs,rl with
   |[],_=>rfl
   |[v],[r]=>exact absurd rfl (hne r)
   |[v],[]=>simp at e1
   |[v],_::_::_=>simp at e1
   |v::u::r,_=>rfl
  rw[e5];exact .tup vs ds e2 e4
 ·exact h.elim
theorem zDU{P:Program}{f:FuncId}{fn:Func}{c:Code}{ds:List D}{res:D}{N:Nat}{rs:Array ResultVar}(hf:P.funcs[f]?=some fn)(hb:fn.body=some c)(hN:fn.ntmps=N)(hrs:fn.results=rs)(hl:Nat.ble ds.length N=true)
  (h:∀(w0:World) (St0:Stab),awp ⟨P,N,w0,St0,fun _=>False,0⟩ c (zBc P rs res) (zQQ ds 0) []):zAg P f ds res:=by
 intro St w vs hst hgl hrep
 subst hN
 have hl:=qAM hl
 have hlen:=hrep.len
 refine calls_of_wp hf hb (h w St _ ?_ _ _ ?_)
 ·intro e σ' η' a' w' hq ⟨g,ha⟩
  have fin:ResC P rs σ' η' res->a'.defers=[]/\∃v,(results fn a'.tmps).run P w' = .ok v w'/\∃v_1 St',Ending.returned v=.returned v_1/\RepD St' w' v_1 res/\Below w.heap.size w w'/\Keep St w St' w'/\
   (∀b o,St' b o->St b o\/w.heap.size<=b)/\(∀b o,St' b o->b<w'.heap.size):=by
   intro hq
   obtain⟨v,hr,hd⟩:=hq.run (P:=P) hrs ha
   refine⟨ha.defers,v,hr,v,g.St,rfl,hd,⟨ha.os,ha.tape,ha.output,ha.wsize,fun k hk=>ha.heap k hk (fun h=>h)⟩,ha.keep,fun b o hb=>?_,ha.inv.st⟩
   rcases ha.new b o hb with h1|h1|h1
   ·exact .inl h1
   ·exact .inr h1
   ·exact h1.elim
  cases e <;> first|exact fin hq|exact hq.elim
 ·refine⟨⟨St,fun _=>none,fun _=>0,fun _=>0,0⟩,rfl,?_,⟨rfl,fun _ _ h=>by simp at h,fun _ _=>rfl,fun _ _ _ h=>by simp at h,fun _ _ h=>by simp at h,hst,hgl⟩,rfl,rfl,rfl,qAN _,fun _ _ _=>rfl,Keep.refl St w,fun _ _ h=>.inl h,fun _ _ h=>by simp at h,?_⟩
  ·simp[hlen];omega
  ·refine zKC vs ds 0 _ hrep fun j v hj=>?_
   have hjl:j<vs.length:=(qAA.1 hj).1
   simp only[qAU,qAJ]
   rw[qAq (by simpa using hjl)]
   simp[hj]
theorem zHp{P:Program}{f:FuncId}{fn:Func}{c:Code}{as:List SV}{pre:List Ob}{res:D}{N:Nat}{rs:Array ResultVar}(hf:P.funcs[f]?=some fn)(hb:fn.body=some c)(hN:fn.ntmps=N)(hrs:fn.results=rs)(hl:Nat.ble as.length N=true)
  (h:∀(w0:World) (St0:Stab),awp ⟨P,N,w0,St0,fun _=>False,pre.length⟩ c (zBc P rs res) (zGU as 0) pre):zA6 P f as pre res:=by
 intro g w vs hi hrep
 subst hN
 have hl:=qAM hl
 have hlen:=hrep.len
 refine calls_of_wp hf hb (h w g.St _ ?_ _ _ ?_)
 ·intro e σ' η' a' w' hq ⟨g',ha⟩
  have fin:ResC P rs σ' η' res->a'.defers=[]/\∃v,(results fn a'.tmps).run P w' = .ok v w'/\∃v_1 St',Ending.returned v=.returned v_1/\RepD St' w' v_1 res/\Below w.heap.size w w'/\Keep g.St w St' w'/\
   (∀b o,St' b o->g.St b o\/w.heap.size<=b)/\(∀b o,St' b o->b<w'.heap.size):=by
   intro hq
   obtain⟨v,hr,hd⟩:=hq.run (P:=P) hrs ha
   refine⟨ha.defers,v,hr,v,g'.St,rfl,hd,⟨ha.os,ha.tape,ha.output,ha.wsize,fun k hk=>ha.heap k hk (fun h=>h)⟩,ha.keep,fun b o hb=>?_,ha.inv.st⟩
   rcases ha.new b o hb with h1|h1|h1
   ·exact .inl h1
   ·exact .inr h1
   ·exact h1.elim
  cases e <;> first|exact fin hq|exact hq.elim
 ·refine⟨g,rfl,?_,hi,rfl,rfl,rfl,qAN _,fun _ _ _=>rfl,Keep.refl g.St w,fun _ _ h=>.inl h,fun i b hb hr=>?_,?_⟩
  ·simp[hlen];omega
  ·exfalso
   have h1:pre.length<=i:=hr
   have h2:=hi.dead i (by rw[hi.n];exact h1)
   rw[hb]at h2;cases h2
  ·refine zFF vs as 0 _ hrep fun j v hj=>?_
   have hjl:j<vs.length:=(qAA.1 hj).1
   simp only[qAU,qAJ]
   rw[qAq (by simpa using hjl)]
   simp[hj]
section
variable {C:Ctx}{ops:Array Oper}{rest:List Oper}{K:Sl->List Ob->Prop}{σ:Sl}{η:List Ob}
theorem zNy(id:Nat){mu:Bool}{e sz:Nat}{xs:List D}(ho:η[id]?=some (.buf mu e sz xs))(_hmu:mu=true)(hro:Nat.ble C.ro id=true)(h:alex C false ops rest K σ (η.set id (.buf false e sz xs))): alex C false ops rest K σ η:=by
 intro Q hQ a w ⟨g,ha⟩
 refine h Q hQ a w ?_
 have hidl:id<η.length:=(qAA.1 ho).1
 have hro:=qAM hro
 obtain⟨o1,o2,o3,o4,o5⟩:=ha.inv.ob id _ ho
 let g':Gh:={ g with St:=fun b o=>g.St b o\/(g.blk id=some b/\o<xs.length*sz) }
 have kp:Keep g.St w g'.St w:=⟨fun _ _ h=>.inl h,fun _ _ _ _ h=>h,fun _ _=>rfl⟩
 have re:∀{v:Value} {s:SV},RepS g w v s->RepS g' w v s:=fun r=>r.ext kp (fun _ _=>⟨rfl,rfl,rfl⟩) (qAN _)
 have lt:∀b o,g'.St b o->b<w.heap.size:=fun b o hb=>by
  rcases hb with hb|⟨hb,_⟩
  ·exact ha.inv.st b o hb
  ·exact ha.inv.lt id b hb
 refine⟨g',ha.defers,ha.size,⟨by rw[qAa];exact ha.inv.n,ha.inv.lt,ha.inv.dead,ha.inv.inj,fun i o hi=>?_,lt,ha.inv.gl.keep kp⟩,ha.os,ha.tape,ha.output,ha.wsize,ha.heap,ha.keep.trans kp,fun b o hb=>?_,ha.own,fun t=>re (ha.rep t)⟩
 ·rw[qAT]at hi
  split at hi
  ·rename_i e;subst e
   try rw[if_pos hidl]at hi
   injection hi with hi;subst hi
   refine⟨o1,o2,o3,o4,?_⟩
   rcases o5 with o5|⟨b,us,h1,h2,h3,h4,h5,h6⟩
   ·exact .inl o5
   ·refine .inr ⟨b,us,h1,h2,h3,h4,fun j u d hu hd=>(h5 j u d hu hd).keep kp,fun o=>⟨fun hb=>?_,fun hb=>.inr ⟨h1,hb.2⟩⟩⟩
    rcases hb with hb|⟨_,hb⟩
    ·exact⟨rfl,((h6 o).1 hb).2⟩
    ·exact⟨rfl,hb⟩
  ·rename_i e
   refine(ha.inv.ob i o hi).ext kp (fun _ _=>⟨rfl,rfl,rfl⟩) (qAN _) (by rw[ha.inv.n];exact(qAA.1 hi).1) (fun b hb=>⟨rfl,fun o=>⟨fun ho=>?_,fun h=>.inl h⟩⟩)
   rcases ho with ho|⟨ho,_⟩
   ·exact ho
   ·exact absurd (ha.inv.inj i id b hb ho) (fun h=>e h.symm)
 ·rcases hb with hb|⟨hb,_⟩
  ·exact ha.new b o hb
  ·exact(ha.own id b hb hro).elim (fun h=>.inr (.inl h)) (fun h=>.inr (.inr h))
theorem zH7(id:Nat){e sz:Nat}(ho:η[id]?=some (.buf false e sz []))(h:alex C false ops rest K σ (η.set id (.buf true e sz []))): alex C false ops rest K σ η:=by
 intro Q hQ a w ⟨g,ha⟩
 refine h Q hQ a w ⟨g,{ ha with inv:={ ha.inv with n:=by rw[qAa];exact ha.inv.n,ob:=fun i o hi=>?_ } }⟩
 rw[qAT]at hi
 split at hi
 ·rename_i hc;subst hc
  split at hi
  ·injection hi with hi;subst hi
   obtain⟨h1,h2,h3,h4,h5⟩:=ha.inv.ob id _ ho
   refine⟨h1,h2,h3,h4,h5.imp (fun h=>h) ?_⟩
   rintro⟨b,us,g1,g2,g3,g4,g5,g6⟩
   exact⟨b,us,g1,g2,g3,g4,g5,fun o=>by rw[g6];simp⟩
  ·cases hi
 ·exact ha.inv.ob i o hi
end
end Go.Sx
namespace Go.Sx
open Go.RowKit
section
variable {κ:Type}[DecidableEq κ]
def zGZ: List (κ×D)->κ->Option D
 |[],_=>none
 |(k,d)::r,a=>if k=a then some d else zGZ r a
def putK: List (κ×D)->κ->D->List (κ×D)
 |[],a,d=>[(a,d)]
 |(k,e)::r,a,d=>if k=a then(k,d)::r else(k,e)::putK r a d
def idxK: List (κ×D)->κ->Nat
 |[],_=>0
 |(k,_)::r,a=>if k=a then 0 else idxK r a+1
def kvs(enc:κ->Value)(L:List (κ×D)): List (Value×D):=L.map fun p=>(enc p.1,p.2)
omit [DecidableEq κ] in
theorem zNc{enc:κ->Value}{L:List (κ×D)}: (kvs enc L).length=L.length:=by simp[kvs]
omit [DecidableEq κ] in
theorem zNd{enc:κ->Value}{L:List (κ×D)}{j:Nat}: (kvs enc L)[j]?=(L[j]?).map fun p=>(enc p.1,p.2):=by simp[kvs]
theorem zIQ: ∀{L:List (κ×D)} {a:κ} {d:D},zGZ L a=some d->L[idxK L a]?=some (a,d)/\∀e,putK L a e=L.set (idxK L a) (a,e)
 |[],_,_,h=>by cases h
 |(k,e)::r,a,d,h=>by
  unfold zGZ at h
  unfold idxK
  split at h
  ·rename_i hk
   injection h with h;subst h;subst hk
   exact⟨by simp,fun e'=>by simp[putK]⟩
  ·rename_i hk
   obtain⟨h1,h2⟩:=zIQ h
   exact⟨by simp[hk,h1],fun e'=>by simp[putK,hk,h2]⟩
theorem zKj: ∀{L:List (κ×D)} {a:κ},zGZ L a=none->(∀p∈L,p.1≠a)/\(∀e,putK L a e=L++[(a,e)])/\idxK L a=L.length
 |[],_,_=>⟨by simp,fun e=>rfl,rfl⟩
 |(k,e)::r,a,h=>by
  unfold zGZ at h
  split at h
  ·cases h
  ·rename_i hk
   obtain⟨h1,h2,h3⟩:=zKj h
   exact⟨fun p hp=>by rcases qBE.1 hp with rfl|hp;exact hk;exact h1 p hp,fun e'=>by simp[putK,hk,h2],by simp[idxK,hk,h3]⟩
structure KeyOk(P:Program)(K:TypeId)(enc:κ->Value): Prop where
 ex:∃kind,P.underlying K=some kind/\(∀a,MapKept.IsKey kind (enc a))/\(∀a b,Instr.sameNow kind (enc a) (enc b)=some (decide (a=b)))/\∀a,Instr.sameBits 10000 (enc a) (enc a)=true
theorem zJ0{kind:TypeDesc}{enc:κ->Value}(hs:∀a b,Instr.sameNow kind (enc a) (enc b)=some (decide (a=b)))(a:κ): ∀(es:List MapEntry) (L:List (κ×D)) (i:Nat),es.length=L.length->
  (∀(j:Nat) e p,es[j]?=some e->L[j]?=some p->e.key=enc p.1)->
  (zGZ L a=none/\Instr.findNow kind (enc a) es i=some none)\/∃e d,es[idxK L a]?=some e/\zGZ L a=some d/\Instr.findNow kind (enc a) es i=some (some (i+idxK L a,e.val))
 |[],[],i,_,_=>.inl ⟨rfl,rfl⟩
 |e::es,(k,d)::L,i,hl,h=>by
  have hk:=h 0 e (k,d) rfl rfl
  have h1:=hs a k
  simp only at hk
  unfold Instr.findNow
  rw[hk,h1]
  by_cases hc:k=a
  ·subst hc
   exact .inr ⟨e,d,by simp[idxK],by simp[zGZ],by simp[idxK]⟩
  ·have hc':¬a=k:=fun e=>hc e.symm
   simp only[hc',decide_false]
   rcases zJ0 hs a es L (i+1) (by simpa using hl) (fun j e p he hp=>h (j+1) e p (by simpa using he) (by simpa using hp))with⟨h2,h3⟩|⟨e2,d2,h2,h3,h4⟩
   ·exact .inl ⟨by simp[zGZ,hc,h2],h3⟩
   ·exact .inr ⟨e2,d2,by simp[idxK,hc,h2],by simp[zGZ,hc,h3],by rw[h4];simp[idxK,hc];omega⟩
 |[],_::_,_,hl,_=>by simp at hl
 |_::_,[],_,hl,_=>by simp at hl
end
theorem zVp{P:Program}{K:TypeId}{q:IntKind}(h:P.underlying K=some (.int q)): KeyOk P K (fun a:Int=>Value.int q a) :=
 ⟨_,h,fun _=>rfl,fun a b=>by simp only[Instr.sameNow,if_true];rfl,fun a=>by simp[Instr.sameBits]⟩
def zNa(P:Program)(t:TypeId): Option (TypeId×TypeId) :=
 match P.underlying t with
 |some (.map k e)=>some (k,e)
 |_=>none
theorem zG1{P:Program}{t k e:TypeId}(h:zNa P t=some (k,e)): P.underlying t=some (.map k e):=by
 unfold zNa at h
 split at h
 ·rename_i hu;simp only[qBo,Prod.mk.injEq]at h;rw[hu,h.1,h.2]
 ·cases h
def zPW(P:Program)(e:TypeId): Option D :=
 match P.info? e with
 |some i=>match i.zero with
  |some z=>match z.oneCell' with
   |true=>some (zdv z)
   |false=>none
  |none=>none
 |none=>none
theorem zQb{P:Program}{e:TypeId}{zd:D}(h:zPW P e=some zd): ∃z,(∀w,(zeroValue e).run P w=.ok z w)/\∀St w,RepD St w z zd:=by
 unfold zPW at h
 split at h
 ·rename_i i hi
  split at h
  ·rename_i z hz
   split at h
   ·injection h with h;subst h
    exact⟨z,fun w=>by simp[zeroValue,typeInfo,hi,hz],fun St w=>zK0 St w z⟩
   ·cases h
  ·cases h
 ·cases h
section
variable {P:Program}{η:List Ob}{σ:Sl}{dst:Option Nat}{ty:TypeId}{pos:String}{after:Array Edge}{gd:Option (Nat×Bool)}{t:TypeId}{x y:Operand}{κ:Type}[DecidableEq κ]{enc:κ->Value}
theorem zV8{a b:SV}(hx:oval σ x=.pair a b): Ylds P η σ ⟨dst,.extract x 0,ty,pos,after,gd⟩ a:=by
 refine Ylds.same fun g w ac hi h=>?_
 have h1:=h x (by simp[Op.operands]);rw[hx]at h1
 obtain⟨u1,u2,hv,h2,h3⟩:=h1
 exact⟨u1,by simp[execOp,hv,Instr.extract],h2⟩
theorem zV7{a b:SV}(hx:oval σ x=.pair a b): Ylds P η σ ⟨dst,.extract x 1,ty,pos,after,gd⟩ b:=by
 refine Ylds.same fun g w ac hi h=>?_
 have h1:=h x (by simp[Op.operands]);rw[hx]at h1
 obtain⟨u1,u2,hv,h2,h3⟩:=h1
 exact⟨u2,by simp[execOp,hv,Instr.extract],h3⟩
theorem zUV{g:Gh}{w:World}{id:Nat}{kb:Option Nat}{l:List (Value×D)}: ObOk g w id (.map kb l)↔∃b es,g.blk id=some b/\w.heap[b]?=some (.map es l.length)/\es.size=l.length/\
  (∀(j:Nat) (e:MapEntry) (p:Value×D),es[j]?=some e->l[j]?=some p->e.born=j/\e.key=p.1/\RepD g.St w e.val p.2)/\(∀o,¬g.St b o)/\∀c,kb=some c->c=b:=by
 constructor
 ·rintro⟨b,es,ck,h1,h2,h3,h4,h5,h6,h7⟩
  obtain⟨rfl,h8⟩:=h7 rfl
  exact⟨b,es,h1,h2,h3,fun j e p he hp=>⟨h8 j e he,h4 j e p he hp⟩,h5,h6⟩
 ·rintro⟨b,es,h1,h2,h3,h4,h5,h6⟩
  refine⟨b,es,_,h1,h2,h3,fun j e p he hp=>(h4 j e p he hp).2,h5,h6,fun _=>⟨rfl,fun j e he=>?_⟩⟩
  have hj:j<l.length:=by rw[<-h3];exact(qAr.1 he).1
  exact(h4 j e _ he (qAB hj)).1
omit [DecidableEq κ] in
theorem zVm{g:Gh}{w:World}{id:Nat}{kb:Option Nat}{L:List (κ×D)}(h:ObOk g w id (.map kb (kvs enc L))): ∃b es,g.blk id=some b/\w.heap[b]?=some (.map es L.length)/\es.toList.length=L.length/\
  (∀(j:Nat) e p,es.toList[j]?=some e->L[j]?=some p->e.key=enc p.1)/\(∀(j:Nat) e p,es.toList[j]?=some e->L[j]?=some p->e.born=j/\RepD g.St w e.val p.2)/\∀o,¬g.St b o:=by
 obtain⟨b,es,h1,h2,h3,h4,h5,_⟩:=zUV.1 h
 rw[zNc]at h2 h3
 refine⟨b,es,h1,h2,by simpa using h3,fun j e p he hp=>?_,fun j e p he hp=>?_,h5⟩
 ·exact(h4 j e (enc p.1,p.2) (by simpa using he) (by rw[zNd,hp];rfl)).2.1
 ·have:=h4 j e (enc p.1,p.2) (by simpa using he) (by rw[zNd,hp];rfl);exact⟨this.1,this.2.2⟩
theorem zUl{g:Gh}{w:World}{id k e:Nat}{kb:Option Nat}{L:List (κ×D)}{zd:D}(h:ObOk g w id (.map kb (kvs enc L)))(ht:zNa P t=some (k,e))(hk:KeyOk P k enc)(hz:zPW P e=some zd)(a:κ)(c:Bool):
  ∃b v,g.blk id=some b/\(Instr.lookup t (.map (some b)) (enc a) c).run P w=.ok (if c then .tuple #[v,.bool (zGZ L a).isSome]else v) w/\RepD g.St w v ((zGZ L a).getD zd):=by
 obtain⟨b,es,h1,h2,h3,h4,h5,_⟩:=zVm h
 obtain⟨kind,k1,k2,k3,k4⟩:=hk.ex
 obtain⟨z,z1,z2⟩:=zQb hz
 have hck:=MapKept.run_checkKey (w:=w) k1 (k2 a) es.isEmpty 9999
 rcases zJ0 k3 a es.toList L 0 h3 h4 with⟨f1,f2⟩|⟨e0,d0,f1,f2,f3⟩
 ·refine⟨b,z,h1,?_,by rw[f1];exact z2 _ _⟩
  simp only[Instr.lookup,Sem.run_bind,run_underlying (zG1 ht),MapKept.run_getObj_map h2,hck,MapKept.run_findKey k1 f2,z1,f1,Result.andThen,Sem.run_pure]
  cases c <;> rfl
 ·have hp:=(zIQ f2).1
  refine⟨b,e0.val,h1,?_,by rw[f2];exact(h5 _ _ _ f1 hp).2⟩
  simp only[Instr.lookup,Sem.run_bind,run_underlying (zG1 ht),MapKept.run_getObj_map h2,hck,MapKept.run_findKey k1 f3,f2,Result.andThen,Sem.run_pure]
  cases c <;> rfl
theorem zYK{id k e:Nat}{kb:Option Nat}{L:List (κ×D)}{a:κ}{zd:D}(hx:oval σ x=.mp id)(ho:η[id]?=some (.map kb (kvs enc L)))(hy:oval σ y=.d (.val (enc a)))(ht:zNa P t=some (k,e))(hk:KeyOk P k enc)(hz:zPW P e=some zd):
  Ylds P η σ ⟨dst,.lookup t x y false,ty,pos,after,gd⟩ (.d ((zGZ L a).getD zd)):=by
 refine Ylds.same fun g w ac hi h=>?_
 have h1:=h x (by simp[Op.operands]);rw[hx]at h1
 have h2:=h y (by simp[Op.operands]);rw[hy]at h2
 obtain⟨_,b,hb,hv⟩:=h1
 obtain⟨b',v,hb',hr,hd⟩:=zUl (hi.ob id _ ho) ht hk hz a false
 rw[hb]at hb';injection hb' with hb';subst hb'
 exact⟨v,by simp only[execOp,hv,RepD.val_eq h2,Sem.run_bind,hr];rfl,hd⟩
theorem zYL{id k e:Nat}{q:IntKind}{kb:Option Nat}{L:List (Int×D)}{a:Int}{zd:D}(hx:oval σ x=.mp id)(ho:η[id]?=some (.map kb (kvs (fun a=>.int q a) L)))(hy:oval σ y=.d (.val (.int q a)))(ht:zNa P t=some (k,e))(hk:P.underlying k=some (.int q))(hz:zPW P e=some zd):
  Ylds P η σ ⟨dst,.lookup t x y false,ty,pos,after,gd⟩ (.d ((zGZ L a).getD zd)):=zYK hx ho hy ht (zVp hk) hz
end
section
variable {C:Ctx}{ops:Array Oper}{rest:List Oper}{K:Sl->List Ob->Prop}{σ:Sl}{η:List Ob}{d:Nat}{ty:TypeId}{pos:String}{after:Array Edge}{gd:Option (Nat×Bool)}{t:TypeId}{x y z:Operand}
theorem AbsG.setObj{g:Gh}{a:Act}{w w':World}(h:AbsG C g σ η a w){id b:Nat}{o:Ob}(hidl:id<η.length)(hb:g.blk id=some b)(hro:C.ro<=id)(hst:∀o,¬g.St b o)
  (os:w'.os=w.os) (tape:w'.tape=w.tape) (output:w'.output=w.output) (hsz:w'.heap.size=w.heap.size) (hoth:∀k,k≠b->w'.heap[k]?=w.heap[k]?)
  (ok:Keep g.St w g.St w'->ObOk g w' id o):AbsG C g σ (η.set id o) a w':=by
 have kp:Keep g.St w g.St w':=⟨fun _ _ h=>h,fun c o u hc hu=>(World.cell?_of_block (a:=⟨c,o,none⟩) (hoth c (fun e=>hst o (e▸hc)))).trans hu,fun c hc=>hoth c (fun e=>hst 0 (e▸hc 0))⟩
 have rk:∀{v:Value} {s':SV},RepS g w v s'->RepS g w' v s':=fun r=>r.ext kp (fun _ _=>⟨rfl,rfl,rfl⟩) (qAN _)
 refine⟨h.defers,h.size,⟨by rw[qAa];exact h.inv.n,fun i c hc=>by rw[hsz];exact h.inv.lt i c hc,h.inv.dead,h.inv.inj,fun i o' ho=>?_,fun c o hc=>by rw[hsz];exact h.inv.st c o hc,h.inv.gl.keep kp⟩,os.trans h.os,tape.trans h.tape,output.trans h.output,by rw[hsz];exact h.wsize,
  fun k hk hx=>?_,h.keep.trans kp,h.new,h.own,fun t=>rk (h.rep t)⟩
 ·rw[qAT]at ho
  split at ho
  ·rename_i hc;subst hc
   try rw[if_pos hidl]at ho
   injection ho with ho;subst ho
   exact ok kp
  ·rename_i hc
   refine(h.inv.ob i o' ho).ext kp (fun _ _=>⟨rfl,rfl,rfl⟩) (qAN _) (by rw[h.inv.n];exact(qAA.1 ho).1) (fun c hcb=>⟨hoth c (fun e=>?_),fun _=>Iff.rfl⟩)
   subst e
   exact hc (h.inv.inj id i c hb hcb)
 ·rw[hoth k (fun e=>?_)]
  ·exact h.heap k hk hx
  ·subst e
   rcases h.own id k hb hro with h2|h2
   ·omega
   ·exact hx h2
section
variable {κ:Type}[DecidableEq κ]{enc:κ->Value}
omit [DecidableEq κ] in
theorem AbsG.setMap{g:Gh}{a:Act}{w:World}(ha:AbsG C g σ η a w){id b:Nat}{kb:Option Nat}{L L':List (κ×D)}{es':Array MapEntry}(ho:η[id]?=some (.map kb (kvs enc L)))(hb:g.blk id=some b)(hro:C.ro<=id)
  (hsz:es'.size=L'.length) (hes:∀(j:Nat) e p,es'[j]?=some e->L'[j]?=some p->e.born=j/\e.key=enc p.1/\RepD g.St w e.val p.2) :
  AbsG C g σ (η.set id (.map kb (kvs enc L'))) a { w with heap:=w.heap.setIfInBounds b (.map es' L'.length) }:=by
 obtain⟨b',es,h1,h2,h3,h4,h5,h6⟩:=zUV.1 (ha.inv.ob id _ ho)
 rw[hb]at h1;injection h1 with h1;subst h1
 have hbl:=ha.inv.lt id b hb
 refine ha.setObj (qAA.1 ho).1 hb hro h5 rfl rfl rfl (by simp) (fun k hk=>by simp[Array.getElem?_setIfInBounds_ne (fun e=>hk e.symm)]) fun kp=>zUV.2 ⟨b,es',hb,by rw[zNc];simp[hbl],by rw[zNc];exact hsz,fun j e p he hp=>?_,h5,h6⟩
 rw[zNd]at hp
 cases hq:L'[j]? with
 |none=>simp[hq]at hp
 |some p0 =>
  simp[hq]at hp;subst hp
  obtain⟨q1,q2,q3⟩:=hes j e p0 he hq
  exact⟨q1,q2,q3.keep kp⟩
theorem zRF{P:Program}{w:World}{v:Value}(h:Instr.sameBits 10000 v v=true): (Instr.keyThatStays v v).run P w=.ok v w:=by
 simp[Instr.keyThatStays,h]
theorem zYI{id k e:Nat}{kb:Option Nat}{L:List (κ×D)}{a:κ}{dv:D}(hx:oval σ x=.mp id)(ho:η[id]?=some (.map kb (kvs enc L)))(hy:oval σ y=.d (.val (enc a)))(hz:Co η (oval σ z) dv)(ht:zNa C.P t=some (k,e))(hk:KeyOk C.P k enc)(hro:Nat.ble C.ro id=true)
  (h:alex C false ops rest K σ (η.set id (.map kb (kvs enc (putK L a dv))))):zBE C false ops ⟨none,.mapUpdate t x y z,ty,pos,after,gd⟩ rest K σ η:=by
 refine zMn (fun g ac w ha=>?_) h
 have h1:=ha.eval x;rw[hx]at h1
 have h2:=ha.eval y;rw[hy]at h2
 have hzr:=hz.rep ha.inv (ha.eval z)
 obtain⟨_,b,hb,hv⟩:=h1
 obtain⟨b',es,m1,m2,m3,m4,m5,m6⟩:=zVm (ha.inv.ob id _ ho)
 rw[hb]at m1;injection m1 with m1;subst m1
 obtain⟨kind,k1,k2,k3,k4⟩:=hk.ex
 have hck:=MapKept.run_checkKey (w:=w) k1 (k2 a) false 9999
 have m3':es.size=L.length:=by simpa using m3
 rcases zJ0 k3 a es.toList L 0 m3 m4 with⟨f1,f2⟩|⟨e0,d0,f1,f2,f3⟩
 ·obtain⟨q1,q2,q3⟩:=zKj f1
  have hset:=ha.setMap (L':=L++[(a,dv)]) (es':=es.push { key:=enc a,val:=ac.eval z,born:=L.length }) ho hb (qAM hro) (by simp[m3']) (fun j e p he hp=>by
   rw[Array.getElem?_push]at he
   split at he
   ·rename_i hj
    injection he with he;subst he
    rw[hj,m3',qAG (qAN _)]at hp
    simp at hp;subst hp
    exact⟨hj.trans m3' |>.symm,rfl,hzr⟩
   ·rename_i hj
    have hjl:j<L.length:=by have:=(qAr.1 he).1;omega
    rw[qAF hjl]at hp
    have he':es.toList[j]?=some e:=by simpa using he
    exact⟨(m5 j e p he' hp).1,m4 j e p he' hp,(m5 j e p he' hp).2⟩)
  refine⟨_,?_,g,by rw[q2];exact hset⟩
  rw[qAD]
  simp only[execOp,hv,RepD.val_eq h2,Sem.run_bind,Instr.mapUpdate,run_underlying (zG1 ht),MapKept.run_getObj_map m2,hck,MapKept.run_findKey k1 f2,MapKept.run_setObj_map _ m2,Result.andThen,Sem.run_pure]
  rfl
 ·obtain⟨q1,q2⟩:=zIQ f2
  have hil:idxK L a<L.length:=(qAA.1 q1).1
  have hkey:e0.key=enc a:=m4 _ _ _ f1 q1
  have f1':es[idxK L a]?=some e0:=by simpa using f1
  have hset:=ha.setMap (L':=L.set (idxK L a) (a,dv)) (es':=es.modify (idxK L a) fun e=>{ e with key:=enc a,val:=ac.eval z }) ho hb (qAM hro) (by simp[m3']) (fun j e p he hp=>by
   rw[Array.getElem?_modify]at he
   rw[qAT]at hp
   split at he
   ·rename_i hj
    subst hj
    rw[if_pos rfl,if_pos hil]at hp
    rw[f1']at he
    simp at he hp;subst he;subst hp
    exact⟨(m5 _ _ _ f1 q1).1,rfl,hzr⟩
   ·rename_i hj
    rw[if_neg hj]at hp
    have he':es.toList[j]?=some e:=by simpa using he
    exact⟨(m5 j e p he' hp).1,m4 j e p he' hp,(m5 j e p he' hp).2⟩)
  refine⟨_,?_,g,by rw[q2];exact hset⟩
  rw[qAa]
  rw[qAU]at f3
  have hst:(Instr.keyThatStays (((es[idxK L a]?).map (·.key)).getD (enc a)) (enc a)).run C.P w=.ok (enc a) w:=by
   rw[f1'];simp only[qBg,qBa,hkey];exact zRF (k4 a)
  simp only[execOp,hv,RepD.val_eq h2,Sem.run_bind,Instr.mapUpdate,run_underlying (zG1 ht),MapKept.run_getObj_map m2,hck,MapKept.run_findKey k1 f3,hst,MapKept.run_setObj_map _ m2,Result.andThen,Sem.run_pure]
end
end
end Go.Sx
namespace Go.Sx
open Go.RowKit
def Closed(l:List Oper)(f:Nat->Bool): Prop:=∀j o,l[j]?=some o->f j=true->∀e∈o.after,Region.binds .any e=true->f e.on=true
def Deps(o:Oper)(f:Nat->Bool): Prop:=∀e∈o.after,Region.binds .any e=true->f e.on=true
theorem zKY{C:Ctx}{l:List Oper}{Q:Exit->Act->World->Prop}{K:Sl->List Ob->Prop}(hQ:∀σ' η' a w,K σ' η'->Abs C σ' η' a w->Q .normal a w)(hB:zFK l=true)
  (m:Nat) (hm:m<=l.length) (hbar:m=l.length\/zHB l.toArray (l.length-m-1)=true) (I:(Nat->Bool)->Act->World->Prop)
  (hfin:∀f a w,(∀j,j<m->f j=true)->I f a w->∃σ η,zBk C l.toArray (l.drop m) K σ η/\Abs C σ η a w)
  (hstep:∀f j o a w,j<m->l[j]?=some o->f j=false->Closed l f->Deps o f->I f a w->
   (Region.wanted o (yielded l.toArray a.tmps)=true/\o.wp C.P a w (I (fun i=>i==j||f i)) Q)\/(Region.wanted o (yielded l.toArray a.tmps)=false/\I (fun i=>i==j||f i) (a.put o.dst undef) w)) :
  ∀(fuel:Nat) (listed:Array Bool) (a:Act) (w:World),listed.size=l.length->(listed.toList.filter (! ·)).length<=fuel->
   (∀j o,l[j]?=some o->listed.getD j true=true->∀e∈o.after,Region.binds .any e=true->listed.getD e.on true=true)->
   (∀i,m<=i->i<l.length->listed.getD i true=false)->I (fun i=>listed.getD i true) a w->wpAny C.P .any l.toArray Q fuel listed a w:=by
 have spec:=zFJ hB
 intro fuel
 induction fuel with
 |zero =>
  intro listed a w hsz hc hcl hno hI
  by_cases hall:∀j,j<m->listed.getD j true=true
  ·obtain⟨σ,η,h1,h2⟩:=hfin _ a w hall hI
   exact zNG hQ hB (l.length-m) m σ η (by omega) h1 0 listed a w hsz hc hcl hall hno h2
  ·exfalso
   apply hall
   intro j hj
   cases hq:listed.getD j true with
   |true=>rfl
   |false =>
    exfalso
    have hxl:j<listed.size:=by omega
    have:false∈listed.toList.filter (! ·):=by
     rw[List.mem_filter]
     refine⟨?_,rfl⟩
     rw[qAJ,qAI hxl]at hq
     simp at hq
     rw[<-hq];exact Array.mem_toList_iff.2 (Array.getElem_mem hxl)
    have:=List.length_pos_of_mem this
    omega
 |succ fuel ih =>
  intro listed a w hsz hc hcl hno hI
  by_cases hall:∀j,j<m->listed.getD j true=true
  ·obtain⟨σ,η,h1,h2⟩:=hfin _ a w hall hI
   exact zNG hQ hB (l.length-m) m σ η (by omega) h1 (fuel+1) listed a w hsz hc hcl hall hno h2
  ·refine⟨fun hr=>?_,fun j hj=>?_⟩
   ·exfalso
    apply hall
    intro j hj
    exact zMo hB listed hsz hr j (by omega)
   ·obtain⟨hun,oj,hoj,hdep⟩:=mem_ready.1 hj
    have hlj:l[j]?=some oj:=by simpa using hoj
    have hjl:j<l.length:=(qAA.1 hlj).1
    have hall':∀e∈oj.after,Region.binds .any e=true->listed.getD e.on true=true:=by
     intro e he hb
     have hlt:=(spec j oj hlj).2.1 e he hb
     rw[zMi (by omega)];exact hdep e he hb
    have hjm:j<m:=by
     rcases qAQ j m with h|h
     ·exact h
     ·exfalso
      apply hall
      intro i hi
      rcases hbar with hb|hb
      ·omega
      ·have hml:m<l.length:=by omega
       have hcl':∀j o,l.toArray[j]?=some o->listed.getD j true=true->∀e∈o.after,Region.binds .any e=true->listed.getD e.on true=true:=fun j o ho=>hcl j o (by simpa using ho)
       simp only[zHB,qAZ]at hb
       obtain⟨⟨_,hb1⟩,hb2⟩:=hb
       have hk1:l.toArray.size-1-(l.length-m-1)=m:=by rw[qBK];omega
       rw[hk1]at hb1
       have hlm:l.toArray[m]?=some l[m]:=by simp[hml]
       rcases qAQ m j with hmj|hmj
       ·exfalso
        have hk2:l.toArray.size-(l.length-m-1)+(j-m-1)=j:=by rw[qBK];omega
        have:=qAX.1 hb2 (j-m-1) (qBL.2 (by omega))
        rw[hk1,hk2]at this
        have:=zCe (f:=fun i=>listed.getD i true) hcl' l.toArray.size j oj hoj hall' this
        rw[hno m (qAN _) hml]at this;cases this
       ·have hmj:j=m:=by omega
        subst hmj
        exact zCe (f:=fun i=>listed.getD i true) hcl' l.toArray.size j oj hoj hall' (qAX.1 hb1 i (qBL.2 hi))
    have cnt:((listed.setIfInBounds j true).toList.filter (! ·)).length<=fuel:=by
     have hjs:j<listed.size:=by omega
     have h0:listed[j]=false:=by
      rw[qAJ,qAI hjs]at hun;simpa using hun
     have e1:listed.toList=listed.toList.take j++false::listed.toList.drop (j+1):=by
      conv=>lhs;rw[<-qBX j listed.toList]
      congr 1
      rw[qA5 (by simpa using hjs)]
      congr 1
     have e2:(listed.setIfInBounds j true).toList=listed.toList.take j++true::listed.toList.drop (j+1):=by
      rw[Array.toList_setIfInBounds,qBV,if_pos (by simpa using hjs)]
     rw[e1]at hc
     rw[e2]
     simp only[List.filter_append,qAD,qBA,Bool.not_false,if_true,qAP,Bool.not_true,Bool.false_eq_true,if_false]at hc ⊢
     omega
    have pre':∀i o,l[i]?=some o->(listed.setIfInBounds j true).getD i true=true->∀e∈o.after,Region.binds .any e=true->(listed.setIfInBounds j true).getD e.on true=true:=by
     intro i o hi hli e he hb
     rw[setB listed j _ (by omega)]at hli ⊢
     by_cases hij:i=j
     ·subst hij
      rw[hlj]at hi;injection hi with hi;subst hi
      rw[hall' e he hb];simp
     ·have hbe:(i==j)=false:=by simpa using hij
      rw[hbe,qBs]at hli
      rw[hcl i o hi hli e he hb];simp
    have no':∀i,m<=i->i<l.length->(listed.setIfInBounds j true).getD i true=false:=fun i h1 h2=>by
     rw[setB listed j i (by omega),hno i h1 h2]
     have:(i==j)=false:=by simp;omega
     rw[this];rfl
    have next:∀a' w',I (fun i=>i==j||listed.getD i true) a' w'->wpAny C.P .any l.toArray Q fuel (listed.setIfInBounds j true) a' w':=fun a' w' hI'=>by
     refine ih _ a' w' (by simpa using hsz) cnt pre' no' ?_
     have:(fun i=>(listed.setIfInBounds j true).getD i true)=fun i=>i==j||listed.getD i true:=by funext i;exact setB listed j i (by omega)
     rw[this];exact hI'
    unfold wpOp
    simp only[hoj]
    rcases hstep _ j oj a w hjm hlj hun hcl hall' hI with⟨h1,h2⟩|⟨h1,h2⟩
    ·rw[if_pos h1]
     exact .inl (Oper.wp_mono next h2)
    ·rw[if_neg (by rw[h1];simp)]
     exact next _ _ h2
theorem zGx{l:List Oper}(hB:zFK l=true){σ:Sl}{ss:List SV}{f:Nat->Bool}{j:Nat}{oj:Oper}(hlj:l[j]?=some oj)(hun:f j=false)(hcl:Closed l f)(hd:Deps oj f): ∀t,t∈oj.looksAt l.toArray->get (pst σ 0 l ss f) t=get (pst σ 0 l ss (fun i=>decide (i<j))) t:=by
 have spec:=zFJ hB
 intro t ht
 refine zCN t l ss σ σ 0 _ _ rfl (fun i o hi hne=>?_)
 rw[qAU]at hne
 rcases qBJ i j with h|h|h
 ·have hni:f i=false:=by
   cases hc':f i with
   |false=>rfl
   |true=>exfalso;simp[hc',h]at hne
  rcases(spec j oj hlj).2.2 i o h hi with⟨e,he,hb,hon⟩|hap
  ·have:=hd e he hb
   rw[hon,hni]at this;cases this
  ·intro hdt;exact(Oper.apart_spec hap).1 t hdt ht
 ·exfalso;subst h;simp[hun]at hne
 ·have hli:f i=true:=by
   cases hc':f i with
   |true=>rfl
   |false =>
    exfalso
    have hdd:decide (i<j)=false:=by simp;omega
    simp only[hc',hdd]at hne
    exact hne rfl
  rcases(spec i o hi).2.2 j oj h hlj with⟨e,he,hb,hon⟩|hap
  ·have:=hcl i o hi hli e he hb
   rw[hon,hun]at this;cases this
  ·intro hdt;exact(Oper.apart_spec hap).2.2 t hdt ht
theorem zGy{l:List Oper}(hB:zFK l=true){σ:Sl}{ss:List SV}{f:Nat->Bool}{j:Nat}{oj:Oper}{sj:SV}(hlj:l[j]?=some oj)(hs:ss[j]?=some sj)(hun:f j=false)(hcl:Closed l f): ∀t,get (put (pst σ 0 l ss f) oj.dst sj) t=get (pst σ 0 l ss (fun i=>i==j||f i)) t:=by
 have spec:=zFJ hB
 intro t
 have h1:=zOa t j l ss σ 0 f oj sj hlj hs (by rw[qAU];exact hun) (fun i o hi hlt' hfi=>by
  rw[qAU]at hfi
  rcases(spec i o hi).2.2 j oj (by omega) hlj with⟨e,he,hb,hon⟩|hap
  ·have:=hcl i o hi hfi e he hb
   rw[hon,hun]at this;cases this
  ·cases hdd:oj.dst with
   |none=>exact .inr rfl
   |some d=>exact .inl ((Oper.apart_spec hap).2.1 d hdd))
 rw[h1,qAU]
def Fresh(C:Ctx)(g:Gh)(w:World)(v:Value)(cs:List SV)(t:TypeId): Prop :=
 ∃b us,v=.pointer (some ⟨b,0,none⟩)/\w.heap[b]?=some (.cells us t (0,0))/\us.size=cs.length/\(∀u∈us,u.oneCell'=true)/\(∀(j:Nat) (u:Value) (s:SV),us[j]?=some u->cs[j]?=some s->RepS g w u s)/\
  (∀o,¬g.St b o)/\(∀id,g.blk id≠some b)/\C.w0.heap.size<=b/\b<w.heap.size
theorem Fresh.grow{C:Ctx}{g g':Gh}{w w':World}{v:Value}{cs:List SV}{t:TypeId}(hst:∀b o,g.St b o->b<w.heap.size)(h:Fresh C g w v cs t)(k:Grow g w g' w'): Fresh C g' w' v cs t:=by
 obtain⟨b,us,h1,h2,q1,q2,q3,h3,h4,h5,h6⟩:=h
 refine⟨b,us,h1,(k.heap b h6).trans h2,q1,q2,fun j u s hu hs=>(q3 j u s hu hs).grow hst k,fun o ho=>?_,fun id=>by rw[k.blk];exact h4 id,h5,qAW h6 k.size⟩
 rcases k.new b o ho with h7|h7
 ·exact h3 o h7
 ·omega
theorem AbsG.adopt{C:Ctx}{g:Gh}{σ:Sl}{η:List Ob}{a:Act}{w:World}(h:AbsG C g σ η a w){d:Nat}{cs:List SV}{t:TypeId}(hf:Fresh C g w (a.tmps.getD d undef) cs t):
  ∃g',AbsG C g' ((d,.ptr η.length 0)::σ) (η++[.bx none (some t) cs]) a w/\g'.St=g.St/\(∀id b,g'.blk id=some b->g.blk id=some b\/a.tmps.getD d undef=.pointer (some ⟨b,0,none⟩))/\∀{v:Value} {s:SV},RepS g w v s->RepS g' w v s:=by
 obtain⟨b,us,f1,f2,z1,z2,z3,f3,f4,f5,f6⟩:=hf
 have hn:=h.inv.n
 let g':Gh:={ g with blk:=upd g.blk g.n (some b),n:=g.n+1 }
 have hold:∀id,id<g.n->g'.blk id=g.blk id/\g'.cap id=g.cap id/\g'.sz id=g.sz id:=fun id hid=>⟨by simp[g',upd,Nat.ne_of_lt hid],rfl,rfl⟩
 have hbn:g'.blk g.n=some b:=by simp[g',upd]
 have hb':∀id c,g'.blk id=some c->(id<g.n/\g.blk id=some c)\/(id=g.n/\c=b):=by
  intro id c hc
  rcases qBJ id g.n with hi|hi|hi
  ·rw[(hold id hi).1]at hc;exact .inl ⟨hi,hc⟩
  ·subst hi;rw[hbn]at hc;injection hc with hc;exact .inr ⟨rfl,hc.symm⟩
  ·have hne:id≠g.n:=by omega
   simp only[g',upd,if_neg hne]at hc
   rw[h.inv.dead id (by omega)]at hc;cases hc
 have kp:=Keep.refl g.St w
 have rx:∀{v:Value} {s:SV},RepS g w v s->RepS g' w v s:=fun r=>r.ext (g':=g') kp hold (Nat.le_succ _)
 refine⟨g',⟨h.defers,h.size,⟨by rw[qAD];show g.n+1=_;rw[hn];rfl,fun id c hc=>?_,fun id hid=>?_,fun i j c hi hj=>?_,fun id o ho=>?_,h.inv.st,h.inv.gl⟩,h.os,h.tape,h.output,h.wsize,h.heap,h.keep,h.new,fun id c hc hr=>?_,fun u=>?_⟩,rfl,fun id c hc=>?_,rx⟩
 ·rcases hb' id c hc with⟨_,q⟩|⟨_,rfl⟩
  ·exact h.inv.lt id c q
  ·exact f6
 ·have hid:g.n+1<=id:=hid
  have hne:id≠g.n:=by omega
  simp only[g',upd,if_neg hne];exact h.inv.dead id (by omega)
 ·rcases hb' i c hi with⟨q1,q2⟩|⟨q1,q2⟩ <;> rcases hb' j c hj with⟨q3,q4⟩|⟨q3,q4⟩
  ·exact h.inv.inj i j c q2 q4
  ·exact absurd (q4▸q2) (f4 i)
  ·exact absurd (q2▸q4) (f4 j)
  ·omega
 ·rw[List.getElem?_append]at ho
  split at ho
  ·rename_i hc
   exact(h.inv.ob id o ho).ext (g':=g') kp hold (Nat.le_succ _) (by omega) (fun _ _=>⟨rfl,fun _=>Iff.rfl⟩)
  ·rename_i hc
   have hid:id=g.n:=by
    have:=(qAA.1 ho).1
    simp at this;omega
   subst hid
   have:g.n-η.length=0:=by omega
   rw[this]at ho
   simp at ho;subst ho
   exact⟨b,t,us,hbn,f2,z1,z2,fun j u s hu hs=>rx (z3 j u s hu hs),f3,fun _ h=>(by cases h),fun _ h=>(qBB h).symm⟩
 ·rcases hb' id c hc with⟨_,q⟩|⟨_,rfl⟩
  ·exact h.own id c q hr
  ·exact .inl f5
 ·rw[zBi]
  split
  ·rename_i e;subst e
   refine⟨by show η.length<g.n+1;omega,b,by rw[<-hn];exact hbn,f1⟩
  ·exact rx (h.rep u)
 ·rcases hb' id c hc with⟨_,q⟩|⟨_,rfl⟩
  ·exact .inl q
  ·exact .inr f1
theorem AbsG.other{C:Ctx}{g:Gh}{σ:Sl}{η:List Ob}{a:Act}{w:World}(h:AbsG C g σ η a w){b:Nat}(us':Array Value)(hst:∀o,¬g.St b o)(hb:∀id,g.blk id≠some b)(h0:C.w0.heap.size<=b):
  AbsG C g σ η a (w.setRow b us')/\∀{v:Value} {s:SV},RepS g w v s->RepS g (w.setRow b us') v s:=by
 have hoth:∀k,k≠b->(w.setRow b us').heap[k]?=w.heap[k]?:=fun k hk=>setRow_other w b k us' hk
 have kp:Keep g.St w g.St (w.setRow b us'):=⟨fun _ _ h=>h,fun c o u hc hu=>(World.cell?_of_block (a:=⟨c,o,none⟩) (hoth c (fun e=>hst o (e▸hc)))).trans hu,fun c hc=>hoth c (fun e=>hst 0 (e▸hc 0))⟩
 have rk:∀{v:Value} {s:SV},RepS g w v s->RepS g (w.setRow b us') v s:=fun r=>r.ext kp (fun _ _=>⟨rfl,rfl,rfl⟩) (qAN _)
 refine⟨⟨h.defers,h.size,⟨h.inv.n,fun i c hc=>by rw[setRow_size];exact h.inv.lt i c hc,h.inv.dead,h.inv.inj,fun i o ho=>?_,fun c o hc=>by rw[setRow_size];exact h.inv.st c o hc,h.inv.gl.keep kp⟩,h.os,h.tape,h.output,by rw[setRow_size];exact h.wsize,
  fun k hk hx=>?_,h.keep.trans kp,h.new,h.own,fun t=>rk (h.rep t)⟩,rk⟩
 ·exact(h.inv.ob i o ho).ext kp (fun _ _=>⟨rfl,rfl,rfl⟩) (qAN _) (by rw[h.inv.n];exact(qAA.1 ho).1) (fun c hcb=>⟨hoth c (fun e=>hb i (e▸hcb)),fun _=>Iff.rfl⟩)
 ·rw[hoth k (fun e=>by omega)];exact h.heap k hk hx
structure Pn where
 d:Nat
 zs:List Value
 t:TypeId
 cs:List SV
def adσ: List Pn->Nat->Sl->Sl
 |[],_,σ=>σ
 |p::r,n,σ=>adσ r (n+1) ((p.d,.ptr n 0)::σ)
def adη(pn:List Pn): List Ob:=pn.map fun p=>.bx none (some p.t) p.cs
theorem AbsG.adoptAll{C:Ctx}{a:Act}{w:World}: ∀(pn:List Pn) (g:Gh) (σ:Sl) (η:List Ob),AbsG C g σ η a w->(∀p∈pn,Fresh C g w (a.tmps.getD p.d undef) p.cs p.t)->
  (pn.Pairwise fun p q=>a.tmps.getD p.d undef≠a.tmps.getD q.d undef)->Abs C (adσ pn η.length σ) (η++adη pn) a w
 |[],g,σ,η,h,_,_=>⟨g,by simpa[adσ,adη]using h⟩
 |p::r,g,σ,η,h,hf,hp=>by
  obtain⟨hp1,hp2⟩:=List.pairwise_cons.1 hp
  obtain⟨g',h1,h2,h3,h4⟩:=h.adopt (hf p (by simp))
  have:=AbsG.adoptAll r g' _ _ h1 (fun q hq=>?_) hp2
  ·rw[qAD]at this
   simpa[adσ,adη,List.append_assoc]using this
  ·obtain⟨b,us,f1,f2,z1,z2,z3,f3,f4,f5,f6⟩:=hf q (by simp[hq])
   refine⟨b,us,f1,f2,z1,z2,fun j u s hu hs=>h4 (z3 j u s hu hs),by rw[h2];exact f3,fun id hid=>?_,f5,f6⟩
   rcases h3 id b hid with h5|h5
   ·exact f4 id h5
   ·exact hp1 q hq (by rw[h5,f1])
def once(l:List Oper)(j d:Nat): Bool:=(List.range l.length).all fun i=>Nat.beq i j||match l[i]? with|some o=>!(match o.dst with|some e=>Nat.beq e d|none=>false)|none=>true
theorem zJi{l:List Oper}{j d:Nat}(h:once l j d=true){i:Nat}{o:Oper}(hi:l[i]?=some o)(hne:i≠j): o.dst≠some d:=by
 have:=qAX.1 h i (qBL.2 (qAA.1 hi).1)
 intro hd
 simp[hi,hd]at this
 exact hne this
inductive SegK where
 |y (s:SV)
 |mk (p:Pn) (st:Option Nat)
 |st (of:Nat) (p:Pn)
def SegK.sv: SegK->SV
 | .y s=>s
 | .mk _ _=>.top
 | .st _ _=>.top
def zNS(C:Ctx)(l:List Oper)(η:List Ob)(all:List SegK): Nat->List Oper->List SegK->Sl->Prop
 |j,o::r,.y s::ks,σ=>(Wants l.toArray σ o.guard true/\Ylds C.P η σ o s)/\zDz C.N o.dst/\zNS C l η all (j+1) r ks (put σ o.dst s)
 |j,o::r,.mk p st::ks,σ=>(o.op=.alloc p.t/\o.guard=none/\o.dst=some p.d/\zB5 C.P p.t=some p.zs/\once l j p.d=true/\(match st with|none=>p.cs=p.zs.map cst|some i=>all[i]?=some (.st j p)))/\zDz C.N o.dst/\zNS C l η all (j+1) r ks (put σ o.dst .top)
 |j,o::r,.st i p::ks,σ=>((∃t x y b0 n,o.op=.store t x y/\x=.tmp p.d/\zGT (oval σ y)=some p.cs/\zBL C.P t=some (b0,n)/\Nat.beq p.cs.length n=true)/\o.guard=none/\o.dst=none/\all[i]?=some (.mk p (some j))/\Nat.blt i j=true/\Nat.beq p.zs.length p.cs.length=true)/\zNS C l η all (j+1) r ks (put σ o.dst .top)
 |_,_,[],_=>True
 |_,[],_::_,_=>False
def pnOf: List SegK->List Pn
 |[]=>[]
 | .mk p _::r=>p::pnOf r
 |_::r=>pnOf r
def segσ: List Oper->List SegK->Sl->Sl
 |o::r,k::ks,σ=>segσ r ks (put σ o.dst k.sv)
 |_,_,σ=>σ
theorem zHm{C:Ctx}{l:List Oper}{η:List Ob}{all:List SegK}: ∀(r:List Oper) (ks:List SegK) (j:Nat) (σ:Sl),zNS C l η all j r ks σ->ks.length<=r.length
 |_,[],_,_,_=>qAV _
 |o::r,.y s::ks,j,σ,h=>by have:=zHm r ks _ _ h.2.2;simpa using this
 |o::r,.mk p _::ks,j,σ,h=>by have:=zHm r ks _ _ h.2.2;simpa using this
 |o::r,.st _ p::ks,j,σ,h=>by have:=zHm r ks _ _ h.2;simpa using this
 |[],_::_,_,_,h=>h.elim
theorem zON{C:Ctx}{l:List Oper}{η:List Ob}{all:List SegK}: ∀(r:List Oper) (ks:List SegK) (j:Nat) (σ:Sl),zNS C l η all j r ks σ->∀(i:Nat) o k,r[i]?=some o->ks[i]?=some k->
  (match k with
  | .y s=>zDz C.N o.dst/\Wants l.toArray (pst σ j r (ks.map SegK.sv) (fun m=>decide (m<j+i))) o.guard true/\Ylds C.P η (pst σ j r (ks.map SegK.sv) (fun m=>decide (m<j+i))) o s
  | .mk p st=>zDz C.N o.dst/\o.op=.alloc p.t/\o.guard=none/\o.dst=some p.d/\zB5 C.P p.t=some p.zs/\once l (j+i) p.d=true/\(match st with|none=>p.cs=p.zs.map cst|some m=>all[m]?=some (.st (j+i) p))
  | .st m p=>(∃t x y b0 n,o.op=.store t x y/\x=.tmp p.d/\zGT (oval (pst σ j r (ks.map SegK.sv) (fun m=>decide (m<j+i))) y)=some p.cs/\zBL C.P t=some (b0,n)/\Nat.beq p.cs.length n=true)/\o.guard=none/\o.dst=none/\all[m]?=some (.mk p (some (j+i)))/\Nat.blt m (j+i)=true/\Nat.beq p.zs.length p.cs.length=true)
 |_,[],_,_,_,i,o,k,_,hk=>by simp at hk
 |[],_::_,_,_,h,_,_,_,_,_=>h.elim
 |o::r,k::ks,j,σ,h,0,o',k',ho,hk=>by
  simp at ho hk;subst ho;subst hk
  have e0:∀t,get (pst σ j (o::r) ((k::ks).map SegK.sv) (fun m=>decide (m<j+0))) t=get σ t:=by
   intro t
   have:=zCN t (o::r) ((k::ks).map SegK.sv) σ σ j (fun m=>decide (m<j+0)) (fun _=>false) rfl (fun i o' hi hne=>by simp at hne)
   rw[this,zDP]
  cases k with
  |y s=>exact⟨h.2.1,h.1.1.congr e0,h.1.2.congr fun x _=>zCx e0 x⟩
  |mk p st=>exact⟨h.2.1,h.1⟩
  |st m p =>
   obtain⟨⟨⟨t,x,y,b0,n,h1,h2,h3,h4⟩,h5⟩,_⟩:=h
   exact⟨⟨t,x,y,b0,n,h1,h2,by rw[zCx e0 y];exact h3,h4⟩,h5⟩
 |o::r,k::ks,j,σ,h,i+1,o',k',ho,hk=>by
  have hh:zNS C l η all (j+1) r ks (put σ o.dst k.sv):=by
   cases k with
   |y s=>exact h.2.2
   |mk p st=>exact h.2.2
   |st m p=>exact h.2
  have:=zON r ks (j+1) _ hh i o' k' (by simpa using ho) (by simpa using hk)
  have hj:j+(i+1)=j+1+i:=by omega
  have hd:decide (j<j+1+i)=true:=by simp;omega
  simp only[qAs,pst,hj,hd]
  exact this
theorem zHl: ∀(r:List Oper) (ks:List SegK) (j:Nat) (σ:Sl) (f:Nat->Bool),(∀i,i<ks.length->f (j+i)=true)->pst σ j r (ks.map SegK.sv) f=segσ r ks σ
 |[],ks,_,_,_,_=>by cases ks <;> rfl
 |_::_,[],_,_,_,_=>rfl
 |o::r,k::ks,j,σ,f,h=>by
  have h0:=h 0 (by simp)
  rw[qA2]at h0
  simp only[qAs,pst,h0,segσ]
  exact zHl r ks (j+1) _ f (fun i hi=>by rw[show j+1+i=j+(i+1) by omega];exact h (i+1) (by simpa using hi))
theorem zHr: ∀{ks:List SegK} {p:Pn},p∈pnOf ks->∃(j:Nat) (st:Option Nat),ks[j]?=some (.mk p st)
 | .y s::ks,p,h=>by obtain⟨j,st,hj⟩:=zHr (ks:=ks) h;exact⟨j+1,st,by simpa using hj⟩
 | .st _ _::ks,p,h=>by obtain⟨j,st,hj⟩:=zHr (ks:=ks) h;exact⟨j+1,st,by simpa using hj⟩
 | .mk q st::ks,p,h=>by
  rcases qBE.1 h with rfl|h
  ·exact⟨0,st,rfl⟩
  ·obtain⟨j,st,hj⟩:=zHr (ks:=ks) h;exact⟨j+1,st,by simpa using hj⟩
 |[],p,h=>by simp[pnOf]at h
theorem zHq{R:Pn->Pn->Prop}: ∀(ks:List SegK),(∀(i j:Nat) p q s s',ks[i]?=some (.mk p s)->ks[j]?=some (.mk q s')->i≠j->R p q)->(pnOf ks).Pairwise R
 |[],_=>.nil
 | .y s::ks,h=>zHq ks (fun i j p q s s' hi hj hne=>h (i+1) (j+1) p q s s' (by simpa using hi) (by simpa using hj) (by omega))
 | .st _ _::ks,h=>zHq ks (fun i j p q s s' hi hj hne=>h (i+1) (j+1) p q s s' (by simpa using hi) (by simpa using hj) (by omega))
 | .mk p st::ks,h=>List.pairwise_cons.2 ⟨fun q hq=>by obtain⟨j,s',hj⟩:=zHr hq;exact h 0 (j+1) p q st s' rfl (by simpa using hj) (by omega),zHq ks (fun i j p q s s' hi hj hne=>h (i+1) (j+1) p q s s' (by simpa using hi) (by simpa using hj) (by omega))⟩
theorem zGo{P:Program}{t:TypeId}{zs:List Value}(h:zB5 P t=some zs): (∀v∈zs,v.oneCell'=true)/\∃z,z.cells.toList=zs/\(∀w,(zeroValue t).run P w=.ok z w):=by
 unfold zB5 at h
 split at h
 ·rename_i i hi
  split at h
  ·rename_i z hz
   split at h
   ·rename_i hall
    injection h with h;subst h
    exact⟨fun v hv=>Array.all_eq_true_iff_forall_mem.1 hall v (by simpa using hv),z,rfl,fun w=>by simp[zeroValue,typeInfo,hi,hz]⟩
   ·cases h
  ·cases h
 ·cases h
def holds(f:Nat->Bool)(p:Pn)(st:Option Nat): List SV:=match st with
 |none=>p.cs
 |some i=>if f i then p.cs else p.zs.map cst
theorem zBZ{C:Ctx}{Q:Exit->Sl->List Ob->Prop}{σ:Sl}{η:List Ob}{id:Nat}{l:List Oper}(ks:List SegK)(hm:C.P.follows .mixedOrders=true)(hB:zFK l=true)
  (hbar:ks.length=l.length\/zHB l.toArray (l.length-ks.length-1)=true) (hs:zNS C l η ks 0 l ks σ)
  (h:alex C true l.toArray (l.drop ks.length) (Q .normal) (adσ (pnOf ks) η.length (segσ l ks σ)) (η++adη (pnOf ks))):awp C (.region id l.toArray true) Q σ η:=by
 intro R hR a w ⟨g,hg⟩
 have hd:Abs C σ η a { w with drawn:=w.drawn+1 }:=⟨g,hg.grow ⟨rfl,rfl,rfl,rfl,rfl,rfl,rfl,qAN _,fun _ _=>rfl,fun _ _ h=>h,fun _ _ h=>.inl h,hg.inv.st⟩⟩
 have hkl:=zHm l ks 0 σ hs
 have hat:=zON l ks 0 σ hs
 have spec:=zFJ hB
 let I:(Nat->Bool)->Act->World->Prop:=fun f a w=>∃g,AbsG C g (pst σ 0 l (ks.map SegK.sv) f) η a w/\(∀(j:Nat) p st,ks[j]?=some (.mk p st)->f j=true->Fresh C g w (a.tmps.getD p.d undef) (holds f p st) p.t)/\
  (∀(i j:Nat) p q s s',ks[i]?=some (.mk p s)->ks[j]?=some (.mk q s')->i≠j->f i=true->f j=true->a.tmps.getD p.d undef≠a.tmps.getD q.d undef)
 have hlk:∀{j:Nat} {k:SegK},ks[j]?=some k->∃o,l[j]?=some o:=fun hk=>⟨_,qAB (qAW (qAA.1 hk).1 hkl)⟩
 refine wp_region_any hm (zKY (C:=C) (K:=Q .normal) (fun σ' η' a w hk hab=>hR _ _ _ _ _ hk hab) hB ks.length hkl hbar I ?_ ?_ _ _ a _ (by simp) ?_ ?_ (fun i _ hi=>?_) ?_)
 ·intro f a w hf ⟨g,h1,h2,h3⟩
  refine⟨_,_,h,?_⟩
  rw[zHl l ks 0 σ f (fun i hi=>by rw[qAU];exact hf i hi)]at h1
  refine h1.adoptAll _ _ _ _ (fun p hp=>?_) (zHq ks fun i j p q s s' hi hj hne=>h3 i j p q s s' hi hj hne (hf i (qAA.1 hi).1) (hf j (qAA.1 hj).1))
  obtain⟨j,st,hj⟩:=zHr hp
  have hjl:=(qAA.1 hj).1
  have hfr:=h2 j p st hj (hf j hjl)
  obtain⟨o,ho⟩:=hlk hj
  have hcs:holds f p st=p.cs:=by
   cases st with
   |none=>rfl
   |some i =>
    have:ks[i]?=some (.st (0+j) p):=(hat j o _ ho hj).2.2.2.2.2.2
    have hil:i<ks.length:=(qAA.1 this).1
    simp only[holds,hf i hil,if_true]
  rw[hcs]at hfr;exact hfr
 ·intro f j o a w hjm hlj hun hcl hdep ⟨g,h1,h2,h3⟩
  obtain⟨k,hk⟩:∃k,ks[j]?=some k:=⟨_,qAB hjm⟩
  have hkk:=hat j o k hlj hk
  rw[qAU]at hkk
  have same:=zGx (σ:=σ) (ss:=ks.map SegK.sv) hB hlj hun hcl hdep
  have hsk:(ks.map SegK.sv)[j]?=some k.sv:=by rw[qAL,hk];rfl
  have next:=zGy (σ:=σ) hB hlj hsk hun hcl
  have stay:∀(i:Nat) p st v,ks[i]?=some (.mk p st)->i≠j->(a.put o.dst v).tmps.getD p.d undef=a.tmps.getD p.d undef:=by
   intro i p st v hi hne
   obtain⟨o',hli⟩:=hlk hi
   have hon:=(hat i _ _ hli hi).2.2.2.2.2.1
   rw[qAU]at hon
   have hne2:=zJi hon hlj (fun e=>hne e.symm)
   cases hod:o.dst with
   |none=>rfl
   |some e =>
    have:e≠p.d:=fun h=>hne2 (by rw[hod,h])
    simp[Act.put,Array.getD_eq_getD_getElem?,Array.getElem?_setIfInBounds_ne this]
  have hmk:∀i,(i==j||f i)=true->i≠j->f i=true:=fun i h hne=>by
   have:(i==j)=false:=by simpa using hne
   simpa[this]using h
  have hsame:(∀m p,k≠.st m p)->∀(i:Nat) p st,ks[i]?=some (.mk p st)->holds (fun i=>i==j||f i) p st=holds f p st:=fun hns i p st hi=>by
   cases st with
   |none=>rfl
   |some m =>
    obtain⟨o',ho'⟩:=hlk hi
    have:ks[m]?=some (.st (0+i) p):=(hat i o' _ ho' hi).2.2.2.2.2.2
    have hmj:m≠j:=fun e=>by subst e;rw[hk]at this;exact hns _ _ (qBB this)
    have:(m==j)=false:=by simpa using hmj
    simp only[holds,this,qBs]
  cases k with
  |y s =>
   left
   obtain⟨hdst,hw,hy⟩:=hkk
   refine⟨hw.wanted (g:=g) (w:=w) fun t q b hgd ht=>by rw[<-same t (zET hgd ht)];exact h1.rep t,?_⟩
   have hy':Ylds C.P η (pst σ 0 l (ks.map SegK.sv) f) o s:=hy.congr fun x hx=>by
    cases x with
    |tmp t=>exact same t (zBh hx)
    |_=>rfl
   have fin:∀v g' w',Grow g w g' w'->RepS g' w' v s->I (fun i=>i==j||f i) (a.put o.dst v) w':=fun v g' w' hgr hr=>by
    have hab:=(h1.grow hgr).put hdst hr
    refine⟨g',hab.get_eq fun t=>.inl (next t).symm,fun i p st hi hfi=>?_,fun i i2 p q s1 s2 hi hi2 hne hf1 hf2=>?_⟩
    ·have hne:i≠j:=fun e=>by subst e;rw[hk]at hi;cases hi
     rw[stay i p st v hi hne,hsame (fun _ _ h=>by cases h) i p st hi]
     exact(h2 i p st hi (hmk i hfi hne)).grow h1.inv.st hgr
    ·have hne1:i≠j:=fun e=>by subst e;rw[hk]at hi;cases hi
     have hne2:i2≠j:=fun e=>by subst e;rw[hk]at hi2;cases hi2
     rw[stay i p s1 v hi hne1,stay i2 q s2 v hi2 hne2]
     exact h3 i i2 p q s1 s2 hi hi2 hne (hmk i hf1 hne1) (hmk i2 hf2 hne2)
   unfold Oper.wp
   rcases hy' g w a h1.inv (fun x _=>h1.eval x)with⟨v,g',w',hr,hg,hs'⟩|⟨fn,args,hr,hc⟩
   ·rw[hr];exact fin v g' w' hg hs'
   ·rw[hr,Oper.upon_enter]
    refine hc.mono fun e w' ⟨v,g',he,hg,hs'⟩=>?_
    subst he
    exact fin v g' w' hg hs'
  |mk p st =>
   left
   obtain⟨hdst,q1,q2,q3,q4,q5,q6⟩:=hkk
   refine⟨by unfold Region.wanted;rw[q2],?_⟩
   obtain⟨z1,z,z2,z3⟩:=zGo q4
   have hrun:(execOp a.eval o).run C.P w=.ok (.value (.pointer (some ⟨w.heap.size,0,none⟩))) (w.alloc (.cells z.cells p.t)):=by
    simp[execOp,q1,Instr.alloc,z3,newVar,newRow]
   have hgr:Grow g w g (w.alloc (.cells z.cells p.t)):=⟨rfl,rfl,rfl,rfl,rfl,rfl,rfl,by simp,fun k hk=>Below.heap_alloc w _ k hk,fun _ _ h=>h,fun _ _ h=>.inl h,fun b o hb=>qAW (h1.inv.st b o hb) (by simp)⟩
   unfold Oper.wp
   rw[hrun]
   have hab:=(h1.grow hgr).put (d:=o.dst) (v:=.pointer (some ⟨w.heap.size,0,none⟩)) (s:=.top) hdst trivial
   have hnew:(a.put o.dst (.pointer (some ⟨w.heap.size,0,none⟩))).tmps.getD p.d undef=.pointer (some ⟨w.heap.size,0,none⟩):=by
    rw[q3]
    have hlt:p.d<a.tmps.size:=by rw[q3]at hdst;rw[h1.size];simpa[zDz,Nat.blt_eq]using hdst
    simp[Act.put,hlt]
   have hold:∀(i:Nat) q s,ks[i]?=some (.mk q s)->f i=true->a.tmps.getD q.d undef≠.pointer (some ⟨w.heap.size,0,none⟩):=fun i q s hi hfi he=>by
    obtain⟨b,us,f1,_,_,_,_,_,_,_,f6⟩:=h2 i q s hi hfi
    rw[he]at f1
    injection f1 with f1;injection f1 with f1;injection f1 with f1
    omega
   have hz:holds (fun i=>i==j||f i) p st=p.zs.map cst:=by
    cases st with
    |none=>exact q6
    |some m =>
     simp only at q6
     obtain⟨o',ho'⟩:=hlk q6
     obtain⟨⟨tt,x,y,b0,n,r1,r2,_⟩,_,_,_,r3,_⟩:=hat m o' _ ho' q6
     rw[qAU]at r3
     have hjm:j<m:=by simpa using r3
     have hfm:f m=false:=by
      cases hfm:f m with
      |false=>rfl
      |true =>
       rcases(spec m o' ho').2.2 j o hjm hlj with⟨e,he,hb,hon⟩|hap
       ·have:=hcl m o' ho' hfm e he hb
        rw[hon,hun]at this;cases this
       ·exact absurd (zBh (ops:=l.toArray) (o:=o') (t:=p.d) (by rw[r1,r2];simp[Op.operands])) ((Oper.apart_spec hap).1 p.d q3)
     have:(m==j)=false:=by simp;omega
     simp only[holds,this,hfm,Bool.or_false,Bool.false_eq_true,if_false]
   refine⟨g,hab.get_eq fun t=>.inl (next t).symm,fun i q s hi hfi=>?_,fun i i2 q q' s s' hi hi2 hne hf1 hf2=>?_⟩
   ·by_cases hij:i=j
    ·subst hij
     rw[hk]at hi;injection hi with hi;injection hi with hi hi';subst hi;subst hi'
     rw[hnew,hz]
     refine⟨w.heap.size,z.cells,rfl,_root_.Go.heap_alloc_new w _,by rw[<-z2];simp,fun u hu=>z1 u (by rw[<-z2];simpa using hu),fun jj u s hu hs=>?_,fun o ho=>absurd (h1.inv.st _ o ho) (by omega),fun id hid=>absurd (h1.inv.lt id _ hid) (by omega),h1.wsize,by simp⟩
     rw[<-z2,qAL]at hs
     rw[<-qAz]at hu
     rw[hu]at hs
     simp at hs;subst hs;exact RepS.cst _ _ u
    ·rw[stay i q s _ hi hij,hsame (fun _ _ h=>by cases h) i q s hi]
     exact(h2 i q s hi (hmk i hfi hij)).grow h1.inv.st hgr
   ·by_cases hij:i=j
    ·have hij2:i2≠j:=fun e=>hne (hij.trans e.symm)
     subst hij
     rw[hk]at hi;injection hi with hi;injection hi with hi hi';subst hi
     rw[hnew,stay i2 q' s' _ hi2 hij2]
     exact fun e=>hold i2 q' s' hi2 (hmk i2 hf2 hij2) e.symm
    ·by_cases hij2:i2=j
     ·subst hij2
      rw[hk]at hi2;injection hi2 with hi2;injection hi2 with hi2 hi2';subst hi2
      rw[hnew,stay i q s _ hi hij]
      exact hold i q s hi (hmk i hf1 hij)
     ·rw[stay i q s _ hi hij,stay i2 q' s' _ hi2 hij2]
      exact h3 i i2 q q' s s' hi hi2 hne (hmk i hf1 hij) (hmk i2 hf2 hij2)
  |st m p =>
   left
   obtain⟨⟨t,x,y,b0,n,r1,r2,r3,r4,r5⟩,q2,q3,q4,q5,q6⟩:=hkk
   refine⟨by unfold Region.wanted;rw[q2],?_⟩
   have hmj:m<j:=by simpa using q5
   obtain⟨om,hom⟩:=hlk q4
   have hq4:=hat m om _ hom q4
   have hfm:f m=true:=by
    rcases(spec j o hlj).2.2 m om hmj hom with⟨e,he,hb,hon⟩|hap
    ·rw[<-hon];exact hdep e he hb
    ·exact absurd (zBh (ops:=l.toArray) (o:=o) (t:=p.d) (by rw[r1,r2];simp[Op.operands])) ((Oper.apart_spec hap).1 p.d hq4.2.2.2.1)
   have hfr:=h2 m p _ q4 hfm
   have hh:holds f p (some j)=p.zs.map cst:=by simp only[holds,hun,Bool.false_eq_true,if_false]
   rw[hh]at hfr
   obtain⟨b,us,f1,f2,z1,z2,z3,f3,f4,f5,f6⟩:=hfr
   have hy1:oval (pst σ 0 l (ks.map SegK.sv) f) y=oval (pst σ 0 l (ks.map SegK.sv) (fun i=>decide (i<j))) y:=by
    cases y with
    |tmp u=>exact same u (zBh (by rw[r1];simp[Op.operands]))
    |_=>rfl
   have hry:=h1.eval y
   rw[hy1]at hry
   obtain⟨c1,c2,c3⟩:=hry.cells r3
   have hpl:=qAf q6
   have hn:=qAf r5
   have hus:us.size=p.cs.length:=by rw[z1,qAC];exact hpl
   have hstore:=run_storeCells_at C.P b 0 p.t (a.eval y).cells.toList 0 us w f2 (by rw[qAS];omega) (fun v hm=>c2 v (by simpa using hm))
   simp only[qA2,qAU,List.take_zero,qBl]at hstore
   rw[List.drop_of_length_le (by rw[qAS,qAS];omega),qBC]at hstore
   obtain⟨ho1,ho2⟩:=h1.other (a.eval y).cells f3 f4 f5
   have hrun:(execOp a.eval o).run C.P w=.ok .skip (w.setRow b (a.eval y).cells):=by
    have hax:a.eval x=.pointer (some ⟨b,0,none⟩):=by rw[r2];exact f1
    simp only[execOp,r1,hax,Instr.storeAt,Instr.sureAddr,storeVar,Sem.run_bind,Sem.run_pure,Result.andThen_ok,(zBt r4 w).2,c1,hn,ne_eq,not_true,if_false,hstore]
   unfold Oper.wp
   rw[hrun]
   have hput:a.put o.dst undef=a:=by rw[q3];rfl
   show I _ (a.put o.dst undef) _
   rw[hput]
   have hnx:∀t,get (pst σ 0 l (ks.map SegK.sv) f) t=get (pst σ 0 l (ks.map SegK.sv) (fun i=>i==j||f i)) t:=fun t=>by have:=next t;rw[q3]at this;exact this
   have hoth:∀k,k≠b->(w.setRow b (a.eval y).cells).heap[k]?=w.heap[k]?:=fun k hk=>setRow_other w b k _ hk
   refine⟨g,ho1.get_eq fun t=>.inl (hnx t).symm,fun i q s hi hfi=>?_,fun i i2 q q' s s' hi hi2 hne hf1 hf2=>?_⟩
   ·have hij:i≠j:=fun e=>by subst e;rw[hk]at hi;cases hi
    have hfi':=hmk i hfi hij
    by_cases him:i=m
    ·subst him
     rw[q4]at hi;injection hi with hi;injection hi with hi hi';subst hi;subst hi'
     have hh2:holds (fun i=>i==j||f i) p (some j)=p.cs:=by simp[holds]
     rw[hh2]
     exact⟨b,(a.eval y).cells,f1,setRow_heap w b us _ p.t (0,0) f2,c1,c2,fun jj u s hu hs=>ho2 (c3 jj u s hu hs),f3,f4,f5,by rw[setRow_size];exact f6⟩
    ·have hne':∀st,s=some st->st≠j:=fun st hst hsj=>by
      subst hst;subst hsj
      obtain⟨o',ho'⟩:=hlk hi
      have:ks[st]?=some (.st (0+i) q):=(hat i o' _ ho' hi).2.2.2.2.2.2
      simp only[qAU]at this
      rw[hk]at this
      injection this with this;injection this with e1 e2
      exact him e1.symm
     have hh2:holds (fun i=>i==j||f i) q s=holds f q s:=by
      cases s with
      |none=>rfl
      |some st =>
       have:(st==j)=false:=by simpa using hne' st rfl
       simp only[holds,this,qBs]
     rw[hh2]
     obtain⟨b2,us2,g1,g2,y1,y2,y3,g3,g4,g5,g6⟩:=h2 i q s hi hfi'
     have hbb:b2≠b:=fun e=>by
      have:=h3 i m q p s _ hi q4 him hfi' hfm
      rw[g1,f1,e]at this;exact this rfl
     exact⟨b2,us2,g1,(hoth b2 hbb).trans g2,y1,y2,fun jj u s hu hs=>ho2 (y3 jj u s hu hs),g3,g4,g5,by rw[setRow_size];exact g6⟩
   ·have hij:i≠j:=fun e=>by subst e;rw[hk]at hi;cases hi
    have hij2:i2≠j:=fun e=>by subst e;rw[hk]at hi2;cases hi2
    exact h3 i i2 q q' s s' hi hi2 hne (hmk i hf1 hij) (hmk i2 hf2 hij2)
 ·refine qAw (qA6 _ _) (by simp)
 ·intro j o hj hl
  have hjl:j<l.length:=(qAA.1 hj).1
  rw[qAJ,qAI (by simpa using hjl)]at hl
  simp at hl
 ·rw[qAJ,qAI (by simpa using hi)]
  simp
 ·obtain⟨g',hg'⟩:=hd
  have hf0:∀i,i<l.length->(Array.replicate l.toArray.size false).getD i true=false:=fun i hi=>by
   rw[qAJ,qAI (by simpa using hi)];simp
  refine⟨g',hg'.get_eq fun t=>.inl ?_,fun j p st hj hf=>?_,fun i j p q s s' hi _ _ hf _=>?_⟩
  ·rw[zCN t l (ks.map SegK.sv) σ σ 0 _ (fun _=>false) rfl (fun i o hi hne=>?_),zDP]
   rw[qAU,hf0 i (qAA.1 hi).1]at hne
   exact absurd rfl hne
  ·have:=hf0 j (by have:=(qAA.1 hj).1;omega)
   simp only[this]at hf;cases hf
  ·have:=hf0 i (by have:=(qAA.1 hi).1;omega)
   simp only[this]at hf;cases hf
def zCr(P:Program)(t:TypeId): Option (List (Nat×Nat)) :=
 match P.underlying t with
 |some (.struct fs)=>fs.toList.mapM fun f=>(P.info? f.type).map fun i=>(f.offset,i.size)
 |_=>none
def zMm{α:Type}(pl:List (Nat×Nat)): List α->List (Nat×List α)->Option (List α)
 |cs,[]=>some cs
 |cs,(i,vs)::r=>match pl[i]? with
  |some (off,size)=>match Nat.beq vs.length size&&Nat.ble (off+vs.length) cs.length with
   |true=>zMm pl (cs.take off++vs++cs.drop (off+vs.length)) r
   |false=>none
  |none=>none
theorem zMj: ∀(l:List Value) (off k:Nat) (cells:Array Value),off+k+l.length<=cells.size->
  ((l.zipIdx k).foldl (fun cs (x:Value×Nat)=>cs.setIfInBounds (off+x.2) x.1) cells).toList=cells.toList.take (off+k)++l++cells.toList.drop (off+k+l.length)
 |[],off,k,cells,_=>by simp
 |v::l,off,k,cells,h=>by
  have hl:off+k<cells.size:=by simp at h;omega
  simp only[List.zipIdx_cons,List.foldl_cons]
  rw[zMj l off (k+1) _ (by simp at h ⊢;omega)]
  have e1:(cells.setIfInBounds (off+k) v).toList=cells.toList.take (off+k)++v::cells.toList.drop (off+k+1):=by
   rw[Array.toList_setIfInBounds,qBV,if_pos (by simpa using hl)]
  have e2:(cells.toList.take (off+k)).length=off+k:=by rw[qAK,qAS];omega
  rw[e1,show off+(k+1)=off+k+1 by omega]
  have e5:cells.toList.drop (off+k+1+l.length)=(cells.toList.drop (off+k+1)).drop l.length:=by rw[List.drop_drop]
  rw[qAP,show off+k+(l.length+1)=off+k+1+l.length by omega,e5]
  generalize cells.toList.take (off+k)=A at *
  generalize cells.toList.drop (off+k+1)=B at *
  rw[List.take_append,List.drop_append,e2,qAi (by omega),List.drop_eq_nil_of_le (by omega:A.length<=off+k+1+l.length)]
  rw[show off+k+1-(off+k)=1 by omega,show off+k+1+l.length-(off+k)=l.length+1 by omega]
  simp
theorem zO1{α:Type}{R:Value->α->Prop}{pl:List (Nat×Nat)}: ∀(ps:List (Nat×Value)) (ss:List (Nat×List α)) (cells:Array Value) (cs cs':List α),ps.length=ss.length->
  (∀(j:Nat) p q,ps[j]?=some p->ss[j]?=some q->p.1=q.1/\p.2.cells.size=q.2.length/\∀(i:Nat) u s,p.2.cells[i]?=some u->q.2[i]?=some s->R u s)->
  cells.size=cs.length->(∀(i:Nat) u s,cells[i]?=some u->cs[i]?=some s->R u s)->zMm pl cs ss=some cs'->
  ∃cells',Instr.fill (pl.toArray[·]?) cells ps=some cells'/\cells'.size=cs'.length/\∀(i:Nat) u s,cells'[i]?=some u->cs'[i]?=some s->R u s
 |[],[],cells,cs,cs',_,_,hs,hr,h=>by simp only[zMm,qBo]at h;subst h;exact⟨cells,rfl,hs,hr⟩
 |(i,v)::ps,(i',vs)::ss,cells,cs,cs',hl,hp,hs,hr,h=>by
  obtain⟨q1,q2,q3⟩:=hp 0 _ _ rfl rfl
  simp only at q1 q2 q3
  subst q1
  unfold zMm at h
  split at h
  ·rename_i off size hpl
   split at h
   ·rename_i hc
    rw[qAZ]at hc
    have c1:=qAf hc.1
    have c2:=qAM hc.2
    have hfold:=zMj v.cells.toList off 0 cells (by rw[qAS];omega)
    have hz:(v.cells.zipIdx.foldl (fun cs (x:Value×Nat)=>cs.setIfInBounds (off+x.2) x.1) cells).toList=cells.toList.take off++v.cells.toList++cells.toList.drop (off+v.cells.size):=by
     rw[<-Array.foldl_toList,Array.toList_zipIdx]
     simpa using hfold
    have hsz:(v.cells.zipIdx.foldl (fun cs (x:Value×Nat)=>cs.setIfInBounds (off+x.2) x.1) cells).size=cells.size:=by
     rw[<-qAS,hz];simp;omega
    obtain⟨cells',r1,r2,r3⟩:=zO1 (R:=R) ps ss (v.cells.zipIdx.foldl (fun cs (x:Value×Nat)=>cs.setIfInBounds (off+x.2) x.1) cells) _ cs' (by simpa using hl) (fun j p q h1 h2=>hp (j+1) p q (by simpa using h1) (by simpa using h2)) (by rw[hsz];simp;omega) (fun j u s hu hsj=>by
     rw[<-qAz,hz]at hu
     have e1:(cells.toList.take off).length=off:=by rw[qAK,qAS];omega
     have e2:(cs.take off).length=off:=by rw[qAK];omega
     rcases qAQ j off with hj|hj
     ·rw[qAg,qAF (by omega),qAR,if_pos hj]at hu hsj
      exact hr j u s (by simpa using hu) hsj
     ·rw[qAg,qAG (by omega)]at hu hsj
      rw[e1]at hu;rw[e2]at hsj
      rcases qAQ (j-off) vs.length with hj2|hj2
      ·rw[qAF (by first|omega|(rw[qAS];omega))]at hu hsj
       exact q3 (j-off) u s (by simpa using hu) hsj
      ·rw[qAG (by first|omega|(rw[qAS];omega))]at hu hsj
       rw[qAS,q2]at hu
       simp only[qAh]at hu hsj
       exact hr (off+vs.length+(j-off-vs.length)) u s (by simpa using hu) hsj) h
    refine⟨cells',?_,r2,r3⟩
    have hpl':pl.toArray[i]?=some (off,size):=by simpa using hpl
    have hcond:(decide (v.cells.size≠size)||decide (off+v.cells.size>cells.size))=false:=by simp;omega
    simp only[Instr.fill,hpl',hcond,Bool.false_eq_true,if_false]
    exact r1
   ·cases h
  ·cases h
 |[],_::_,_,_,_,hl,_,_,_,_=>by simp at hl
 |_::_,[],_,_,_,hl,_,_,_,_=>by simp at hl
theorem zJ6{P:Program}{t:TypeId}{pl:List (Nat×Nat)}{zs:List Value}{α:Type}{R:Value->α->Prop}{ps:List (Nat×Value)}{ss:List (Nat×List α)}{cs cs':List α}(hpl:zCr P t=some pl)(hz:zB5 P t=some zs)(hl:ps.length=ss.length)
  (hp:∀(j:Nat) p q,ps[j]?=some p->ss[j]?=some q->p.1=q.1/\p.2.cells.size=q.2.length/\∀(i:Nat) u s,p.2.cells[i]?=some u->q.2[i]?=some s->R u s)
  (hzl:zs.length=cs.length) (hzr:∀(i:Nat) u s,zs[i]?=some u->cs[i]?=some s->R u s) (h:zMm pl cs ss=some cs'):∃cells',P.built t ps=some cells'/\cells'.size=cs'.length/\∀(i:Nat) u s,cells'[i]?=some u->cs'[i]?=some s->R u s:=by
 unfold zCr at hpl
 split at hpl
 ·rename_i fs hfs
  unfold zB5 at hz
  split at hz
  ·rename_i it hit
   split at hz
   ·rename_i z hzz
    split at hz
    ·injection hz with hz;subst hz
     obtain⟨cells',r1,r2⟩:=zO1 (R:=R) (pl:=pl) ps ss z.cells cs cs' hl hp (by simpa using hzl) (fun i u s hu hs=>hzr i u s (by simpa using hu) hs) h
     exact⟨cells',by simp only[Program.built,hit,hfs,hzz,hpl];exact r1,r2⟩
    ·cases hz
   ·cases hz
  ·cases hz
 ·cases hpl
def zJg(η:List Ob)(σ:Sl): List (Nat×Operand)->List (Nat×D)->Prop
 |[],[]=>True
 |(i,x)::r,(j,d)::s=>Nat.beq i j=true/\Co η (oval σ x) d/\okc d=true/\zJg η σ r s
 |_,_=>False
theorem zCi{η:List Ob}{σ:Sl}: zJg η σ [] []:=trivial
theorem PD_d{η:List Ob}{σ:Sl}{i:Nat}{x:Operand}{d:D}{r:List (Nat×Operand)}{s:List (Nat×D)}(h:oval σ x=.d d)(ho:okc d=true)(k:zJg η σ r s): zJg η σ ((i,x)::r) ((i,d)::s):=⟨by simp,by rw[h];rfl,ho,k⟩
theorem zIN{η:List Ob}{σ:Sl}{g:Gh}{w:World}{a:Act}(hi:Inv g w η): ∀(ps:List (Nat×Operand)) (ds:List (Nat×D)),(∀p∈ps,RepS g w (a.eval p.2) (oval σ p.2))->zJg η σ ps ds->(ps.map fun p=>(p.1,a.eval p.2)).length=(ds.map fun p=>(p.1,p.2.flat)).length/\
  ∀(j:Nat) p q,(ps.map fun p=>(p.1,a.eval p.2))[j]?=some p->(ds.map fun p=>(p.1,p.2.flat))[j]?=some q->p.1=q.1/\p.2.cells.size=q.2.length/\∀(i:Nat) u s,p.2.cells[i]?=some u->q.2[i]?=some s->RepD g.St w u s/\u.oneCell'=true
 |[],[],_,_=>⟨rfl,fun j p q h=>by simp at h⟩
 |(i,x)::r,(j',d)::s,ho,⟨h1,h2,h3,h4⟩=>by
  obtain⟨e1,e2⟩:=zIN hi r s (fun p hp=>ho p (by simp[hp])) h4
  have hr:=h2.rep hi (ho (i,x) (by simp))
  refine⟨by simpa using e1,fun j p q hp hq=>?_⟩
  cases j with
  |zero =>
   simp at hp hq;subst hp;subst hq
   have hc:=RepS.cells (g:=g) (w:=w) (v:=a.eval x) (s:=.d d) hr (zL6 h3)
   refine⟨qAf h1,by simpa using hc.1,fun i u s hu hs=>⟨?_,hc.2.1 u (qA7 hu)⟩⟩
   have hs':(d.flat.map SV.d)[i]?=some (.d s):=by rw[qAL];simp only at hs;rw[hs];rfl
   exact hc.2.2 i u (.d s) hu hs'
  |succ j=>exact e2 j p q (by simpa using hp) (by simpa using hq)
 |[],_::_,_,h=>h.elim
 |_::_,[],_,h=>h.elim
section
variable {P:Program}{η:List Ob}{σ:Sl}{dst:Option Nat}{ty:TypeId}{pos:String}{after:Array Edge}{gd:Option (Nat×Bool)}{t:TypeId}{x y:Operand}
theorem zBr{ps:List (Nat×Operand)}{ds:List (Nat×D)}{pl:List (Nat×Nat)}{zs:List Value}{cs:List D}(hpl:zCr P t=some pl)(hz:zB5 P t=some zs)(hp:zJg η σ ps ds)(hf:zMm pl (zs.map zdv) (ds.map fun p=>(p.1,p.2.flat))=some cs):
  Ylds P η σ ⟨dst,.build t ps.toArray,ty,pos,after,gd⟩ (.d (.agg cs)):=by
 refine Ylds.same fun g w a hi h=>?_
 obtain⟨e1,e2⟩:=zIN (a:=a) hi ps ds (fun p hp=>h p.2 (by
  simp only[Op.operands,List.mem_toArray,qBO];exact⟨p,hp,rfl⟩)) hp
 obtain⟨cells',r1,r2,r3⟩:=zJ6 (R:=fun u d=>RepD g.St w u d/\u.oneCell'=true) (cs:=zs.map zdv) hpl hz e1 e2 (by simp) (fun i u s hu hs=>by
  rw[qAL,hu]at hs
  simp at hs;subst hs
  exact⟨zK0 _ _ u,(zGo hz).1 u (qAH hu)⟩) hf
 have hall:∀(j:Nat) u,cells'[j]?=some u->u.oneCell'=true:=fun j u hu=>by
  have hj:j<cs.length:=by rw[<-r2];exact(qAr.1 hu).1
  exact(r3 j u _ hu (qAB hj)).2
 refine⟨.agg cells',?_,?_⟩
 ·have:=run_build (P:=P) w t (ps.map fun p=>(p.1,a.eval p.2)).toArray cells' (by simpa using r1)
  simp only[execOp,Sem.run_bind,qA9,this,Result.andThen_ok,Sem.run_pure]
 ·have:=RepD.agg (St:=g.St) (w:=w) cells'.toList cs (by simpa using r2) (fun u hu=>by
   obtain⟨j,hj,rfl⟩:=qBi.1 hu
   exact hall j _ (by rw[Array.getElem_toList];exact qAI _)) (fun j u d hu hd=>(r3 j u d (by simpa using hu) hd).1)
  show RepD _ _ _ _
  simpa using this
end
def zKg(σ:Sl): List (Nat×Operand)->List (Nat×List SV)->Prop
 |[],[]=>True
 |(i,x)::r,(j,cs)::s=>Nat.beq i j=true/\zGT (oval σ x)=some cs/\zKg σ r s
 |_,_=>False
theorem zaI{σ:Sl}: zKg σ [] []:=trivial
theorem zS8{σ:Sl}{i:Nat}{x:Operand}{cs:List SV}{r:List (Nat×Operand)}{s:List (Nat×List SV)}(h:zGT (oval σ x)=some cs)(k:zKg σ r s): zKg σ ((i,x)::r) ((i,cs)::s):=⟨by simp,h,k⟩
theorem zKf{σ:Sl}{g:Gh}{w:World}{a:Act}: ∀(ps:List (Nat×Operand)) (ss:List (Nat×List SV)),(∀p∈ps,RepS g w (a.eval p.2) (oval σ p.2))->zKg σ ps ss->(ps.map fun p=>(p.1,a.eval p.2)).length=ss.length/\
  ∀(j:Nat) p q,(ps.map fun p=>(p.1,a.eval p.2))[j]?=some p->ss[j]?=some q->p.1=q.1/\p.2.cells.size=q.2.length/\∀(i:Nat) u s,p.2.cells[i]?=some u->q.2[i]?=some s->RepS g w u s/\u.oneCell'=true
 |[],[],_,_=>⟨rfl,fun j p q h=>by simp at h⟩
 |(i,x)::r,(j',cs)::s,ho,⟨h1,h2,h4⟩=>by
  obtain⟨e1,e2⟩:=zKf r s (fun p hp=>ho p (by simp[hp])) h4
  have hc:=(ho (i,x) (by simp)).cells h2
  refine⟨by simpa using e1,fun j p q hp hq=>?_⟩
  cases j with
  |zero =>
   simp at hp hq;subst hp;subst hq
   exact⟨qAf h1,hc.1,fun i u s hu hs=>⟨hc.2.2 i u s hu hs,hc.2.1 u (qA7 hu)⟩⟩
  |succ j=>exact e2 j p q (by simpa using hp) (by simpa using hq)
 |[],_::_,_,h=>h.elim
 |_::_,[],_,h=>h.elim
section
variable {C:Ctx}{ops:Array Oper}{rest:List Oper}{K:Sl->List Ob->Prop}{σ:Sl}{η:List Ob}{d d2:Nat}{ty ty2:TypeId}{pos pos2:String}{after after2:Array Edge}{t:TypeId}
theorem zSu{ps:List (Nat×Operand)}{ss:List (Nat×List SV)}{pl:List (Nat×Nat)}{zs:List Value}{cs:List SV}(hpl:zCr C.P t=some pl)(hz:zB5 C.P t=some zs)(hp:zKg σ ps ss)(hf:zMm pl (zs.map cst) ss=some cs)
  (hd:Nat.blt d C.N=true) (hd2:Nat.blt d2 C.N=true) (hro:Nat.ble C.ro η.length=true) (h:alex C false ops rest K ((d2,.ptr η.length 0)::(d,.top)::σ) (η++[.bx none (some t) cs])) :
  alex C false ops (⟨some d,.build t ps.toArray,ty,pos,after,none⟩ :: ⟨some d2,.box t (.tmp d),ty2,pos2,after2,none⟩::rest) K σ η:=by
 refine w0 ?_
 intro Q hQ a w ⟨g,ha⟩ K' hK'
 obtain⟨e1,e2⟩:=zKf (g:=g) (w:=w) (a:=a) ps ss (fun p _=>ha.eval p.2) hp
 obtain⟨cells',r1,r2,r3⟩:=zJ6 (R:=fun u s=>RepS g w u s/\u.oneCell'=true) (cs:=zs.map cst) hpl hz e1 e2 (by simp) (fun i u s hu hs=>by
  rw[qAL,hu]at hs
  simp at hs;subst hs
  exact⟨RepS.cst _ _ u,(zGo hz).1 u (qAH hu)⟩) hf
 have hall:∀u∈cells',u.oneCell'=true:=fun u hu=>by
  obtain⟨j,hj,rfl⟩:=Array.mem_iff_getElem.1 hu
  have hjc:j<cs.length:=by rw[<-r2];exact hj
  exact(r3 j _ _ (qAI hj) (qAB hjc)).2
 have hrun:(execOp a.eval ⟨some d,.build t ps.toArray,ty,pos,after,none⟩).run C.P w=.ok (.value (.agg cells')) w:=by
  have:=run_build (P:=C.P) w t (ps.map fun p=>(p.1,a.eval p.2)).toArray cells' (by simpa using r1)
  simp only[execOp,Sem.run_bind,qA9,this,Result.andThen_ok,Sem.run_pure]
 unfold Oper.wp
 rw[hrun]
 refine hK' _ _ ?_
 have ha1:=ha.put (d:=some d) (v:=.agg cells') (s:=.top) hd trivial
 have hev:(a.put (some d) (.agg cells')).eval (.tmp d)=.agg cells':=by
  have hlt:d<a.tmps.size:=by rw[ha.size];simpa[Nat.blt_eq]using hd
  simp[Act.eval,Act.put,hlt]
 refine wpList_step fun K2 hK2=>?_
 rw[if_pos (show Region.wanted ⟨some d2,.box t (.tmp d),ty2,pos2,after2,none⟩ _=true from rfl)]
 unfold Oper.wp
 have hrun2:(execOp (a.put (some d) (.agg cells')).eval ⟨some d2,.box t (.tmp d),ty2,pos2,after2,none⟩).run C.P w=.ok (.value (.pointer (some ⟨w.heap.size,0,none⟩))) (w.alloc (.cells cells' t)):=by
  simp only[execOp,hev]
  simp[Instr.box,newVar,newRow,Value.cells]
 rw[hrun2]
 exact hK2 _ _ (h Q hQ _ _ (zSr (some t) ha1 t (fun _ h=>(qBB h).symm) cells' cs hd2 (qAM hro) r2 hall (fun j u s hu hs=>(r3 j u s hu hs).1)))
end
theorem zMk{sz o:Nat}{cs:List D}{c:D}: ∀{xs:List D} {i:Nat},(∀x∈xs,x.flat.length=sz)->xs[i]?=some (.agg cs)->o<cs.length->zCH (xs.set i (.agg (cs.set o c)))=(zCH xs).set (i*sz+o) c
 |x::r,0,_,hi,ho=>by
  simp at hi;subst hi
  simp only[zCH,qBh,qAd,D.flat,Nat.zero_mul,qAU]
  rw[List.set_append,if_pos ho]
 |x::r,i+1,hf,hi,ho=>by
  have h1:=hf x (by simp)
  have ih:=zMk (sz:=sz) (o:=o) (c:=c) (xs:=r) (i:=i) (fun y hy=>hf y (by simp[hy])) (by simpa using hi) ho
  simp only[zCH,List.set_cons_succ,qAd]at ih ⊢
  rw[ih,List.set_append,if_neg (by rw[h1,qAu];omega),h1]
  rw[show (i+1)*sz+o-sz=i*sz+o by rw[qAu];omega]
 |[],_,_,hi,_=>by simp at hi
section
variable {C:Ctx}{ops:Array Oper}{rest:List Oper}{K:Sl->List Ob->Prop}{σ:Sl}{η:List Ob}{d:Nat}{ty:TypeId}{pos:String}{after:Array Edge}{gd:Option (Nat×Bool)}{t:TypeId}{x y:Operand}
theorem zPG{id i o n e sz:Nat}{xs:List D}{cs:List D}{c:D}(hx:oval σ x=.bptr id i o)(hy:oval σ y=.d c)(hc:one (.d c)=true)(ht:zBL C.P t=some (false,n))(hn:Nat.beq n 1=true)(ho:η[id]?=some (.buf true e sz xs))(hi:xs[i]?=some (.agg cs))(hol:Nat.blt o cs.length=true)(hro:Nat.ble C.ro id=true)
  (h:alex C false ops rest K σ (η.set id (.buf true e sz (xs.set i (.agg (cs.set o c)))))):zBE C false ops ⟨none,.store t x y,ty,pos,after,gd⟩ rest K σ η:=by
 have hn:=qAf hn
 subst hn
 have hol:o<cs.length:=by simpa using hol
 refine zMn (fun g a w ha=>?_) h
 have hp:=ha.eval x;rw[hx]at hp
 have hr:=ha.eval y;rw[hy]at hr
 obtain⟨hid,b,hb,hpv⟩:=hp
 obtain⟨o1,o2,o3,o4,o5⟩:=ha.inv.ob id _ ho
 have hil:i<xs.length:=(qAA.1 hi).1
 have hcl:cs.length=sz:=o2 _ (qAH hi)
 rcases o5 with⟨h1,_⟩|⟨b',us,h1,h2,h3,h4,h5,h6⟩
 ·rw[h1]at hb;cases hb
 ·rw[hb]at h1;injection h1 with h1;subst h1
  obtain⟨c1,c2⟩:=RepS.one (g:=g) (w:=w) (s:=.d c) hr hc
  have hpos:i*sz+o<xs.length*sz:=by
   have:=qAe sz (show i+1<=xs.length by omega)
   rw[qAu]at this;omega
  have hcap:xs.length*sz<=us.size:=by rw[h3];exact qAe _ o4
  have hst:=run_storeCells_at C.P b (i*sz+o) e [a.eval y] 0 us w h2 (by simp;omega) (fun v hv=>by simp at hv;subst hv;exact c2)
  simp only[qA2,qAx]at hst
  have hus:(us.toList.take (i*sz+o)++[a.eval y]++us.toList.drop (i*sz+o+1)).toArray=us.setIfInBounds (i*sz+o) (a.eval y):=by
   apply Array.ext'
   rw[Array.toList_setIfInBounds,qBV,if_pos (by rw[qAS];omega)]
   simp
  rw[hus]at hst
  have hfl:=zMk (c:=c) o2 hi hol
  have hset:∀x∈xs.set i (.agg (cs.set o c)),x.flat.length=sz:=fun x hx=>by
   rcases List.mem_or_eq_of_mem_set hx with h|h
   ·exact o2 x h
   ·rw[h];simp[D.flat,hcl]
  refine⟨_,?_,g,ha.writeBuf (us':=us.setIfInBounds (i*sz+o) (a.eval y)) ho (qAM hro) hb h2 (fun o hc=>by have:=(h6 o).1 hc;cases this.1) hset (by rw[qAa];exact o4) (by simp) h3 (fun j u hj hu=>?_) (fun j u d' hu hd'=>?_)⟩
  ·rw[o1]at hpv
   simp only[execOp,hpv,Instr.storeAt,Instr.sureAddr,storeVar,Sem.run_bind,Sem.run_pure,Result.andThen_ok,(zBt ht w).2,c1,ne_eq]
   simp[hst]
  ·rw[qAa]at hj
   rw[Array.getElem?_setIfInBounds]at hu
   split at hu
   ·split at hu
    ·injection hu with hu;subst hu;exact c2
    ·cases hu
   ·exact h4 j u hj hu
  ·rw[hfl,qAT]at hd'
   rw[Array.getElem?_setIfInBounds]at hu
   split at hu
   ·rename_i hj
    subst hj
    rw[if_pos (by omega)]at hu
    injection hu with hu;subst hu
    rw[if_pos rfl,if_pos (by rw[zBu o2];omega)]at hd'
    injection hd' with hd';subst hd';exact hr
   ·rename_i hj
    rw[if_neg hj]at hd'
    exact h5 j u d' hu hd'
variable {P:Program}{dst:Option Nat}{yt:TypeId}
theorem zPK{xs:List D}(hx:oval σ x=.d (.slice xs))(hy:oval σ y=.nil)(hne:xs≠[])(hu:(zBd P t).isSome=true): Ylds P η σ ⟨dst,.binOp .eql t x y yt,ty,pos,after,gd⟩ (.d (.val (.bool false))):=by
 obtain⟨e,he⟩:=qA4.1 hu
 refine Ylds.same fun g w a hi h=>⟨.bool false,?_,.val _⟩
 have h1:=h x (by simp[Op.operands]);rw[hx]at h1
 have h2:=h y (by simp[Op.operands]);rw[hy]at h2
 change RepD _ _ _ _ at h1
 change _=_ at h2
 generalize hv:a.eval x=v at h1
 cases h1 with
 |slice ad len cap sz _ us hlen hcap hm hsz hus hone hcell =>
  obtain⟨ad',rfl,_⟩:=hcell (qBe.2 hne)
  have hg:(eqGuard .eql t x y (.slice (some ad') len cap) (.slice none 0 0)).run P w=.ok () w:=by first|rfl|simp[eqGuard]|simp[go_sem]
  have hq:(binOp .eql t (.slice (some ad') len cap) (.slice none 0 0)).run P w=.ok (.bool false) w:=by
   have:=run_equal_slice_nil (P:=P) (w:=w) t e (some ad') len cap (zBx he)
   simp[go_sem,binOp,this]
  simp only[execOp,hv,h2,Sem.run_bind,hg,hq,Result.andThen_ok,Sem.run_pure]
end

open Go.Lib
section
variable {P:Program}{η:List Ob}{σ:Sl}{dst:Option Nat}{ty:TypeId}{pos:String}{after:Array Edge}{gd:Option (Nat×Bool)}{t yt:TypeId}{x y:Operand}
end
section
variable {C:Ctx}{σ:Sl}{η:List Ob}
end
section
variable {κ:Type}[DecidableEq κ]{enc:κ->Value}
end
section
variable {P:Program}{η:List Ob}{σ:Sl}{dst:Option Nat}{ty:TypeId}{pos:String}{after:Array Edge}{gd:Option (Nat×Bool)}{t:TypeId}{x y:Operand}
end
section
variable {C:Ctx}{ops:Array Oper}{rest:List Oper}{K:Sl->List Ob->Prop}{σ:Sl}{η:List Ob}{d:Nat}{ty:TypeId}{pos:String}{after:Array Edge}{gd:Option (Nat×Bool)}{t:TypeId}{x y z:Operand}
section
variable {κ:Type}[DecidableEq κ]{enc:κ->Value}
end
section
variable {κ:Type}[DecidableEq κ]{enc:κ->Value}
end
end
end Go.Sx
namespace Go.Sx
open Go.RowKit
def segG(C:Ctx)(l:List Oper)(η:List Ob)(e:Nat)(η':List Ob)(F:SV->SV)(T:Sl->Sl): Nat->List Oper->List SV->Sl->Prop
 |j,o::r,s::ss,σ=>(j=e\/((Wants l.toArray σ o.guard true/\Ylds C.P η σ o s)/\zDz C.N o.dst/\(o.after.toList.all fun ed=>!Region.binds .any ed || !Nat.beq ed.on e)=true/\
   (zFO l.toArray l.length e j=true\/(o.guard=none/\F s=s/\Ylds C.P η' (T σ) o s))))/\segG C l η e η' F T (j+1) r ss (put σ o.dst s)
 |_,_,_,_=>True
theorem zRB{C:Ctx}{l:List Oper}{η:List Ob}{e:Nat}{η':List Ob}{F:SV->SV}{T:Sl->Sl}(hT:∀τ t,get (T τ) t=F (get τ t)): ∀(r:List Oper) (ss:List SV) (j:Nat) (σ:Sl),segG C l η e η' F T j r ss σ->∀(i:Nat) o s,r[i]?=some o->ss[i]?=some s->
  j+i=e\/((Wants l.toArray (pst σ j r ss (fun m=>decide (m<j+i))) o.guard true/\Ylds C.P η (pst σ j r ss (fun m=>decide (m<j+i))) o s)/\zDz C.N o.dst/\(o.after.toList.all fun ed=>!Region.binds .any ed || !Nat.beq ed.on e)=true/\
   (zFO l.toArray l.length e (j+i)=true\/(o.guard=none/\F s=s/\Ylds C.P η' (T (pst σ j r ss (fun m=>decide (m<j+i)))) o s)))
 |_,[],_,_,_,i,o,s,_,hs=>by simp at hs
 |[],_::_,_,_,_,i,o,s,ho,_=>by simp at ho
 |o::r,s::ss,j,σ,h,0,o',s',ho,hs=>by
  simp at ho hs;subst ho;subst hs
  have e0:∀t,get (pst σ j (o::r) (s::ss) (fun m=>decide (m<j+0))) t=get σ t:=by
   intro t
   have:=zCN t (o::r) (s::ss) σ σ j (fun m=>decide (m<j+0)) (fun _=>false) rfl (fun i o' hi hne=>by simp at hne)
   rw[this,zDP]
  rcases h.1 with h1|⟨⟨h1,h2⟩,h3,h4,h5⟩
  ·exact .inl h1
  ·refine .inr ⟨⟨?_,h2.congr fun x _=>zCx (fun t=>(e0 t)) x⟩,h3,h4,?_⟩
   ·revert h1
    unfold Wants
    cases o.guard with
    |none=>exact id
    |some q =>
     rintro⟨t,h1,h2⟩
     exact⟨t,h1,by rw[e0];exact h2⟩
   ·rcases h5 with h5|⟨h5,h6,h7⟩
    ·exact .inl h5
    ·exact .inr ⟨h5,h6,h7.congr fun x _=>zCx (fun t=>by rw[hT,hT,e0]) x⟩
 |o::r,s::ss,j,σ,h,i+1,o',s',ho,hs=>by
  have:=zRB hT r ss (j+1) _ h.2 i o' s' (by simpa using ho) (by simpa using hs)
  have hj:j+(i+1)=j+1+i:=by omega
  have hd:decide (j<j+1+i)=true:=by simp;omega
  simp only[pst,hj,hd]
  exact this
theorem zMw{C:Ctx}{Q:Exit->Sl->List Ob->Prop}{σ:Sl}{η:List Ob}{id:Nat}{l:List Oper}(ss:List SV)(e:Nat){oe:Oper}{dE:Nat}{rs:SV}(F:SV->SV)(T:Sl->Sl)(η':List Ob)
  (hm:C.P.follows .mixedOrders=true) (hB:zFK l=true) (hle:l[e]?=some oe) (hdE:oe.dst=some dE) (hge:oe.guard=none) (hes:Nat.blt e ss.length=true) (hsl:Nat.ble ss.length l.length=true)
  (hbar:ss.length=l.length\/zHB l.toArray (l.length-ss.length-1)=true) (hT:∀τ t,get (T τ) t=F (get τ t)) (hs:segG C l η e η' F T 0 l ss σ)
  (hE:∀τ,(∀t,t∈oe.looksAt l.toArray->get τ t=get (pst σ 0 l ss (fun m=>decide (m<e))) t)->EStep C oe (fun σ' η''=>σ'=(dE,rs)::T τ/\η''=η') τ η)
  (h:alex C true l.toArray (l.drop ss.length) (Q .normal) ((dE,rs)::T (segσ l (ss.map .y) σ)) η'):awp C (.region id l.toArray true) Q σ η:=by
 intro R hR a w ⟨g,hg⟩
 have hes:=Nat.blt_eq.mp hes
 have hsl:=qAM hsl
 have hd0:Abs C σ η a { w with drawn:=w.drawn+1 }:=⟨g,hg.grow ⟨rfl,rfl,rfl,rfl,rfl,rfl,rfl,qAN _,fun _ _=>rfl,fun _ _ h=>h,fun _ _ h=>.inl h,hg.inv.st⟩⟩
 have hsv:(ss.map SegK.y).map SegK.sv=ss:=by rw[qBt];exact List.map_id ss
 have hat:=zRB hT l ss 0 σ hs
 have spec:=zFJ hB
 let I:(Nat->Bool)->Act->World->Prop:=fun f a w=>match f e with
  |true=>Abs C ((dE,rs)::T (pst σ 0 l ss f)) η' a w
  |false=>Abs C (pst σ 0 l ss f) η a w
 refine wp_region_any hm (zKY (C:=C) (K:=Q .normal) (fun σ' η' a w hk hab=>hR _ _ _ _ _ hk hab) hB ss.length hsl hbar I ?_ ?_ _ _ a _ (by simp) ?_ ?_ (fun i _ hi=>?_) ?_)
 ·intro f a w hf hI
  refine⟨_,_,h,?_⟩
  have he:=hf e hes
  simp only[I,he]at hI
  have:=zHl l (ss.map .y) 0 σ f (fun i hi=>by rw[qAU];exact hf i (by simp at hi;omega))
  rw[hsv]at this
  rw[this]at hI;exact hI
 ·intro f j o a w hjm hlj hun hcl hdep hI
  obtain⟨s,hsj⟩:∃s,ss[j]?=some s:=⟨_,qAB hjm⟩
  have same:=zGx (σ:=σ) (ss:=ss) hB hlj hun hcl hdep
  have next:=zGy (σ:=σ) hB hlj hsj hun hcl
  by_cases hje:j=e
  ·
   subst hje
   rw[hle]at hlj;injection hlj with hlj;subst hlj
   simp only[I,hun]at hI
   refine .inl ⟨by unfold Region.wanted;rw[hge],?_⟩
   refine Oper.wp_mono ?_ (hE _ same _ a w hI)
   rintro a' w' ⟨σ',η'',⟨rfl,rfl⟩,hab⟩
   have hbeq:(j==j)=true:=by simp
   simp only[I,hbeq,Bool.true_or]
   refine hab.le fun t=>.inl ?_
   have hn2:=next t
   rw[hdE]at hn2
   simp only[put,zBi]at hn2 ⊢
   by_cases h5:dE=t
   ·rw[if_pos h5,if_pos h5]
   ·rw[if_neg h5]at hn2 ⊢
    rw[if_neg h5,hT,hT,hn2]
  ·
   rcases hat j o s hlj hsj with h0|⟨⟨hw,hy⟩,hdst,hind,hfl⟩
   ·omega
   rw[qAU]at hw hy hfl
   have hne:(e==j)=false:=by simp;omega
   cases he:f e with
   |false =>
    simp only[I,he]at hI
    obtain⟨g,h1⟩:=hI
    have hI':∀a' w',Abs C (put (pst σ 0 l ss f) o.dst s) η a' w'->I (fun i=>i==j||f i) a' w':=fun a' w' hab=>by
     simp only[I,hne,he,Bool.or_false];exact hab.le fun t=>.inl (next t).symm
    refine .inl ⟨hw.wanted (g:=g) (w:=w) fun t q b hgd ht=>by rw[<-same t (zET hgd ht)];exact h1.rep t,?_⟩
    have hy':Ylds C.P η (pst σ 0 l ss f) o s:=hy.congr fun x hx=>by
     cases x with
     |tmp t=>exact same t (zBh hx)
     |_=>rfl
    exact hy'.wp hdst hI' h1
   |true =>
    simp only[I,he]at hI
    obtain⟨g,h1⟩:=hI
    have hcl':∀j o,l.toArray[j]?=some o->f j=true->∀e∈o.after,Region.binds .any e=true->f e.on=true:=fun j o ho=>hcl j o (by simpa using ho)
    have hnr:zFO l.toArray l.length e j=false:=by
     cases hr:zFO l.toArray l.length e j with
     |false=>rfl
     |true =>
      have:=zCe hcl' l.length e _ (by simpa using hle) (fun e' hm hb=>hcl _ _ hle he e' hm hb) hr
      rw[hun]at this;cases this
    rcases hfl with h2|⟨h2,h3,h4⟩
    ·rw[hnr]at h2;cases h2
    ·
     have hap:(∀d,o.dst=some d->d≠dE)/\∀t,t∈o.looksAt l.toArray->dE≠t:=by
      rcases qAQ j e with hj|hj
      ·rcases(spec e _ hle).2.2 j o hj hlj with⟨ed,hm,hb,hon⟩|hap
       ·have:=hcl _ _ hle he ed hm hb
        rw[hon,hun]at this;cases this
       ·obtain⟨p1,p2,p3⟩:=Oper.apart_spec hap
        exact⟨fun d hd hq=>p2 d hd (by rw[hdE,hq]),fun t ht hq=>p3 dE hdE (by rw[hq];exact ht)⟩
      ·rcases(spec j _ hlj).2.2 e oe (by omega) hle with⟨ed,hm,hb,hon⟩|hap
       ·have:=qAX.1 hind ed (by simpa using hm)
        rw[hb,hon]at this
        simp at this
       ·obtain⟨p1,p2,p3⟩:=Oper.apart_spec hap
        exact⟨fun d hd hq=>p2 dE hdE (by rw[hd,hq]),fun t ht hq=>p1 dE hdE (by rw[hq];exact ht)⟩
     have same':∀t,t∈o.looksAt l.toArray->get ((dE,rs)::T (pst σ 0 l ss f)) t=get (T (pst σ 0 l ss (fun m=>decide (m<j)))) t:=fun t ht=>by
      rw[zBi,if_neg (hap.2 t ht),hT,hT,same t ht]
     refine .inl ⟨by unfold Region.wanted;rw[h2],?_⟩
     have hy':Ylds C.P η' ((dE,rs)::T (pst σ 0 l ss f)) o s:=h4.congr fun x hx=>by
      cases x with
      |tmp t=>exact same' t (zBh hx)
      |_=>rfl
     refine hy'.wp hdst (fun a' w' hab=>?_) h1
     simp only[I,hne,he,Bool.or_true]
     refine hab.le fun t=>.inl ?_
     have hn2:=next t
     cases hdd:o.dst with
     |none =>
      rw[hdd]at hn2
      simp only[put,zBi]at hn2 ⊢
      split
      ·rfl
      ·rw[hT,hT,hn2]
     |some d =>
      have hne2:d≠dE:=hap.1 d hdd
      rw[hdd]at hn2
      simp only[put,zBi]at hn2 ⊢
      by_cases h5:dE=t
      ·subst h5;rw[if_pos rfl,if_neg hne2,if_pos rfl]
      ·rw[if_neg h5,hT,<-hn2]
       by_cases h6:d=t
       ·rw[if_pos h6,if_pos h6,h3]
       ·rw[if_neg h6,if_neg h6,if_neg h5,hT]
 ·refine qAw (qA6 _ _) (by simp)
 ·intro j o hj hl
  have hjl:j<l.length:=(qAA.1 hj).1
  rw[qAJ,qAI (by simpa using hjl)]at hl
  simp at hl
 ·rw[qAJ,qAI (by simpa using hi)]
  simp
 ·have hf0:∀i,i<l.length->(Array.replicate l.toArray.size false).getD i true=false:=fun i hi=>by
   rw[qAJ,qAI (by simpa using hi)];simp
  simp only[I,hf0 _ (qAW hes hsl)]
  refine hd0.le fun t=>.inl ?_
  rw[zCN t l ss σ σ 0 _ (fun _=>false) rfl (fun i o hi hne=>?_),zDP]
  rw[qAU,hf0 i (qAA.1 hi).1]at hne
  exact absurd rfl hne
theorem EStep.of{C:Ctx}{ops:Array Oper}{o:Oper}{J:Sl->List Ob->Prop}{σ:Sl}{η:List Ob}(h:zBE C false ops o [] J σ η): EStep C o J σ η:=fun Q a w hab=>by
 have:=h (fun e a w=>match e with | .normal=>∃σ' η',J σ' η'/\Abs C σ' η' a w|e=>Q e a w) (fun σ' η' a w hk hab=>⟨σ',η',hk,hab⟩) a w hab (fun a w=>∃σ' η',J σ' η'/\Abs C σ' η' a w) (fun a w hw=>hw)
 exact zN6 (fun e a w hne hq=>by cases e <;> first|exact absurd rfl hne|exact hq) this
theorem zKA{C:Ctx}{Q:Exit->Sl->List Ob->Prop}{σ:Sl}{η:List Ob}{rid:Nat}{l:List Oper}(ss:List SV)(i:Nat){x y:Operand}{t:TypeId}{d:Nat}{ty:TypeId}{pos:String}{after:Array Edge}(id:Nat){n m e sz by':Nat}{mu:Bool}{xs ys:List D}
  (hmx:C.P.follows .mixedOrders=true) (hB:zFK l=true) (hle:l[i]?=some ⟨some d,.call ⟨.builtin .append, #[x,y], #[t,t]⟩,ty,pos,after,none⟩) (hes:Nat.blt i ss.length=true) (hsl:Nat.ble ss.length l.length=true)
  (hbar:ss.length=l.length\/zHB l.toArray (l.length-ss.length-1)=true)
  (hs:segG C l η i ((zFI id η).set id (.buf mu e sz (xs++ys))) (SV.kill id) (zFP id) 0 l ss σ)
  (hx:oval (pst σ 0 l ss (fun m=>decide (m<i))) x=.buf id n) (ho:η[id]?=some (.buf mu e sz xs)) (hy:oval (pst σ 0 l ss (fun m=>decide (m<i))) y=.d (.slice ys)) (hn:n=xs.length) (hm:m=ys.length)
  (he:zBd C.P t=some e) (hsz:zA2 C.P t=some sz) (hz:zC3 C.P e=some sz) (hb:zCZ C.P t=some by') (hd:Nat.blt d C.N=true) (hro:Nat.ble C.ro id=true) (hf:∀d∈ys,d.flat.length=sz) (hlen:(n+m)*by'<=140737488355328/\n+m<=140737488355328)
  (h:alex C true l.toArray (l.drop ss.length) (Q .normal) ((d,.buf id (n+m))::zFP id (segσ l (ss.map .y) σ)) ((zFI id η).set id (.buf mu e sz (xs++ys)))):awp C (.region rid l.toArray true) Q σ η:=by
 refine zMw ss i (SV.kill id) (zFP id) _ hmx hB hle rfl rfl hes hsl hbar (zFX id) hs (fun τ hτ=>?_) h
 have op:∀z,z=x\/z=y->oval τ z=oval (pst σ 0 l ss (fun m=>decide (m<i))) z:=fun z hz=>by
  cases z with
  |tmp t=>exact hτ t (zBh (by simp[Op.operands,Call.operands];rcases hz with h|h <;> simp[h]))
  |_=>rfl
 exact EStep.of (ops:=#[]) (aApp (id:=id) ((op x (.inl rfl)).trans hx) ho (zCQ ((op y (.inr rfl)).trans hy)) hn hm he hsz hz hb hd hro hf hlen (zAD ⟨rfl,rfl⟩))
section
variable {P:Program}{η:List Ob}{σ:Sl}{dst:Option Nat}{ty:TypeId}{pos:String}{after:Array Edge}{gd:Option (Nat×Bool)}{t:TypeId}{x y z:Operand}
theorem zKG{a b:SV}(h:oval σ x=.pair a b): Ylds P η σ ⟨dst,.move x,ty,pos,after,gd⟩ (.pair a b):=zFb (.inl rfl) h
theorem zV9{yt:TypeId}{a b:List UInt8}(hx:oval σ x=.d (str a))(hy:oval σ y=.d (str b))(h:a=b): Ylds P η σ ⟨dst,.binOp .eql t x y yt,ty,pos,after,gd⟩ (.d (.val (.bool true))):=by
 have:=zS2 (P:=P) (η:=η) (dst:=dst) (ty:=ty) (pos:=pos) (after:=after) (gd:=gd) (t:=t) (yt:=yt) hx hy;rwa [decide_eq_true h]at this
theorem zWA{yt:TypeId}{a b:List UInt8}(hx:oval σ x=.d (str a))(hy:oval σ y=.d (str b))(h:¬a=b): Ylds P η σ ⟨dst,.binOp .eql t x y yt,ty,pos,after,gd⟩ (.d (.val (.bool false))):=by
 have:=zS2 (P:=P) (η:=η) (dst:=dst) (ty:=ty) (pos:=pos) (after:=after) (gd:=gd) (t:=t) (yt:=yt) hx hy;rwa [decide_eq_false h]at this
theorem zaC{e sz by':Nat}{xs ys:List D}(hx:oval σ x=.d (.tsl xs))(hy:Co η (oval σ y) (.slice ys))(h0:Nat.blt 0 ys.length=true)
  (he:zBd P t=some e) (hs:zA2 P t=some sz) (hz:zC3 P e=some sz) (hb:zCZ P t=some by') (hfx:∀d∈xs,d.flat.length=sz) (hf:∀d∈ys,d.flat.length=sz) (hlen:(xs.length+ys.length)*by'<=140737488355328/\xs.length+ys.length<=140737488355328) :
  Ylds P η σ ⟨dst,.call ⟨.builtin .append, #[x,y], #[t,t]⟩,ty,pos,after,gd⟩ (.d (.slice (xs++ys))):=by
 have h0:0<ys.length:=by simpa using h0
 obtain⟨e',i,hu,hi',hsz⟩:=zBH hs
 have:e'=e:=by have:=zBx he;rw[hu]at this;injection this with this;injection this
 subst this
 have hby:i.bytes=by':=by
  obtain⟨e2,i2,h1,h2,h3⟩:=zDE hb
  rw[hu]at h1;injection h1 with h1;injection h1 with h1;subst h1
  rw[hi']at h2;injection h2 with h2;subst h2;exact h3
 obtain⟨zv,hzz,hzs⟩:=zFQ hi' hz
 intro g w a hi h
 have hxr:=h x (by simp[Op.operands,Call.operands]);rw[hx]at hxr
 obtain⟨sa,hxv,hxr⟩:∃sa,a.eval x=.slice sa xs.length xs.length/\RepD g.St w (.slice sa xs.length xs.length) (.slice xs):=by
  change RepD _ _ _ _ at hxr
  generalize a.eval x=v at hxr
  cases hxr with
  |tsl sa n xs h =>
   have:n=xs.length:=by cases h;assumption
   subst this;exact⟨sa,rfl,h⟩
 obtain⟨sa',cap',olds,hv',_,_,hol,ho1,hocell,horep⟩:=hxr.open_slice hfx
 injection hv' with hv1 hv2 hv3;subst hv1;subst hv3
 have hyr:=(hy.rep hi (h y (by simp[Op.operands,Call.operands]))).open_slice hf
 obtain⟨ya,yc,news,hyv,_,_,hnl,hn1,hncell,hnrep⟩:=hyr
 obtain⟨ad,rfl,hnc⟩:=hncell h0
 have hsrc:Src P i.size t (.slice (some ad) ys.length yc) ys.length news w:=Src.ofSlice w hu ad ys.length yc news (by rw[hnl,hsz]) (fun j u hj=>(hnc j u hj).2) hn1
 have hold:(Builtin.firstCells i.size xs.length (.slice sa xs.length xs.length)).run P w.drew=.ok olds.toArray w.drew:=by
  rcases Nat.eq_zero_or_pos xs.length with hz0|hz0
  ·have hon:olds=[]:=qAo (by rw[hol,hz0];simp)
   rw[hz0,hon]
   cases sa with
   |none=>exact run_firstCells_none w.drew i.size 0 0 0
   |some b=>exact run_firstCells_some w.drew i.size 0 b 0 0 [] (by simp) (fun j u hj=>by simp at hj)
  ·obtain⟨b,rfl,hbc⟩:=hocell hz0
   exact run_firstCells_some w.drew i.size xs.length b xs.length xs.length olds (by rw[hol,hsz]) (fun j u hj=>by simpa using(hbc j u hj).2)
 have hfit:Builtin.nextslicecap (xs.length+ys.length) xs.length*i.bytes<=281474976710656:=growslice_fits (by omega) (by rw[hby];exact hlen.1)
 have hrun:=run_append_grow_src (P:=P) w t t ty e' i zv hu hi' hzz sa xs.length xs.length olds hold _ _ _ hsrc (by omega) (by omega) hfit
 generalize hcells:(olds++news).toArray++Builtin.zeroCells zv.cells (grownCap w (xs.length+ys.length) xs.length e'-(xs.length+ys.length))=us' at hrun
 have hge:=grownCap_ge w (xs.length+ys.length) xs.length e'
 have hcm:=grownCap_le_maxLen w (xs.length+ys.length) xs.length e' (by simp only[maxLen];omega)
 have hat:∀j,j<(xs.length+ys.length)*sz->us'[j]?=(olds++news)[j]?:=fun j hj=>by
  rw[<-hcells,qAq (by simp only[qBK,qAD,hol,hnl];rw[<-qAu];exact hj)];simp
 have hcell:∀(j:Nat) (u:Value),(olds++news)[j]?=some u->(w.drew.alloc (.cells us' e')).cell? ⟨w.heap.size,j,none⟩=some u:=fun j u hj=>by
  have hjl:=(qAA.1 hj).1
  rw[qAD,hol,hnl,<-qAu]at hjl
  rw[cell_of_row _ w.heap.size j us' e' (0,0) (_root_.Go.heap_alloc_new w.drew _),hat j hjl];exact hj
 let g':Gh:={ g with St:=fun b o=>g.St b o\/(b=w.heap.size/\o<(xs.length+ys.length)*sz) }
 have hh:∀k,k<w.heap.size->(w.drew.alloc (.cells us' e')).heap[k]?=w.heap[k]?:=fun k hk=>Below.heap_alloc w.drew _ k hk
 have kp:Keep g.St w g'.St (w.drew.alloc (.cells us' e')):=⟨fun _ _ h=>.inl h,fun b o u hb hc=>(World.cell?_of_block (w:=w) (a:=⟨b,o,none⟩) (hh b (hi.st b o hb))).trans hc,fun b hb=>hh b (hi.st b 0 (hb 0))⟩
 refine .inl ⟨.slice (some ⟨w.heap.size,0,none⟩) (xs.length+ys.length) (grownCap w (xs.length+ys.length) xs.length e'),g',w.drew.alloc (.cells us' e'),?_,⟨rfl,rfl,rfl,rfl,rfl,rfl,rfl,by simp,hh,fun _ _ h=>.inl h,fun b o hb=>hb.imp_right fun h=>by rw[h.1];exact qAN _,fun b o hb=>?_⟩,?_⟩
 ·simp only[execOp,resolve,invoke,builtin,Sem.run_bind,Sem.run_pure,Result.andThen_ok,qA9,qAs,qBk,hxv,hyv,hrun]
 ·rcases hb with hb|⟨rfl,_⟩
  ·exact qAW (hi.st b o hb) (by simp)
  ·simp
 ·refine .slice _ _ _ sz _ (olds++news) (by rw[qAD]) hge hcm (fun d hd=>?_) (by rw[zDc,qAD,qAD,zBu hfx,zBu hf,hol,hnl]) (fun u hm=>?_) (fun _=>⟨_,rfl,fun j u hj=>⟨?_,?_⟩⟩) (fun j u d hj hd=>?_)
  ·rcases qAc.1 hd with h|h
   ·exact hfx d h
   ·exact hf d h
  ·rcases qAc.1 hm with h|h
   ·exact ho1 u h
   ·exact hn1 u h
  ·have hjl:=(qAA.1 hj).1
   rw[qAD,hol,hnl,<-qAu]at hjl
   exact .inr ⟨rfl,by simpa using hjl⟩
  ·rw[Addr.add_lit,qAU];exact hcell j u hj
  ·rw[zDc]at hd
   refine RepD.keep kp ?_
   rcases qAQ j olds.length with h1|h1
   ·rw[qAF h1]at hj
    rw[qAF (by rw[zBu hfx,<-hol];exact h1)]at hd
    exact horep j u d hj hd
   ·rw[qAG h1]at hj
    rw[qAG (by rw[zBu hfx,<-hol];exact h1)]at hd
    rw[zBu hfx,<-hol]at hd
    exact hnrep _ u d hj hd
end
def lowC(l:List Oper)(es:List Nat)(j:Nat): Nat:=(es.filter fun e=>zFO l.toArray l.length j e).length
def zKq(l:List Oper): List Nat->Bool
 |[]=>true
 |e::r=>(r.all fun k=>Nat.blt e k&&zFO l.toArray l.length k e)&&zKq l r
def idxC: List Nat->Nat->Option Nat
 |[],_=>none
 |e::r,j=>match Nat.beq e j with
  |true=>some 0
  |false=>(idxC r j).map (· + 1)
def YAll(C:Ctx)(σ:Sl)(o:Oper)(s:SV): List (List Ob)->Prop
 |[]=>True
 |η::r=>Ylds C.P η σ o s/\YAll C σ o s r
theorem YAll.get{C:Ctx}{σ:Sl}{o:Oper}{s:SV}: ∀{L:List (List Ob)},YAll C σ o s L->∀(i:Nat) (η:List Ob),L[i]?=some η->Ylds C.P η σ o s
 |_::_,h,0,η,hi=>by simp at hi;subst hi;exact h.1
 |_::_,h,i+1,η,hi=>YAll.get h.2 i η (by simpa using hi)
 |[],_,i,η,hi=>by simp at hi
theorem zJp: ∀(es:List Nat) (j i:Nat),idxC es j=some i->es[i]?=some j
 |e::r,j,i,h=>by
  unfold idxC at h
  split at h
  ·rename_i he;injection h with h;subst h;rw[qAf he];rfl
  ·cases hq:idxC r j with
   |none=>rw[hq]at h;cases h
   |some k =>
    rw[hq]at h;injection h with h;subst h
    exact(List.getElem?_cons_succ).trans (zJp r j k hq)
 |[],_,_,h=>by cases h
theorem zJq: ∀{es:List Nat} {j:Nat},idxC es j=none->j∉es
 |e::r,j,h=>by
  unfold idxC at h
  split at h
  ·cases h
  ·rename_i he
   cases hq:idxC r j with
   |none =>
    intro hm
    rcases qBE.1 hm with hm|hm
    ·subst hm;simp at he
    ·exact zJq hq hm
   |some k=>rw[hq]at h;cases h
 |[],_,_=>by simp
theorem zFL{l:List Oper}: ∀{es:List Nat},zKq l es=true->∀(a b:Nat) x y,a<b->es[a]?=some x->es[b]?=some y->x<y/\zFO l.toArray l.length y x=true
 |e::r,h,0,b+1,x,y,_,hx,hy=>by
  simp only[zKq,qAZ]at h
  simp at hx;subst hx
  have:=qAX.1 h.1 y (qAH (by simpa using hy))
  simp only[qAZ]at this
  exact⟨by simpa using this.1,this.2⟩
 |e::r,h,a+1,b+1,x,y,hab,hx,hy=>by
  simp only[zKq,qAZ]at h
  exact zFL h.2 a b x y (by omega) (by simpa using hx) (by simpa using hy)
 |_,_,_,0,_,_,hab,_,_=>by omega
 |[],_,_,_+1,_,_,_,hx,_=>by simp at hx
def cntC(es:List Nat)(f:Nat->Bool): Nat:=(es.filter f).length
theorem zO7{es:List Nat}{f:Nat->Bool}{j i:Nat}(hnd:es.Nodup)(hj:es[i]?=some j)(hf:f j=false): cntC es (fun k=>k==j||f k)=cntC es f+1:=by
 unfold cntC
 induction es generalizing i with
 |nil=>simp at hj
 |cons e r ih =>
  rw[List.nodup_cons]at hnd
  cases i with
  |zero =>
   simp at hj;subst hj
   have e1:r.filter (fun k=>k==e||f k)=r.filter f:=List.filter_congr fun k hk=>by
    have:(k==e)=false:=by simp;intro h;subst h;exact hnd.1 hk
    rw[this,qBs]
   rw[qBA,qBA,hf]
   simp[e1]
  |succ i =>
   have hm:j∈r:=qAH (by simpa using hj)
   have hne:(e==j)=false:=by simp;intro h;subst h;exact hnd.1 hm
   have:=ih hnd.2 (by simpa using hj)
   rw[qBA,qBA,hne,qBs]
   split
   ·simp only[qAP];omega
   ·exact this
theorem zO8{es:List Nat}{f:Nat->Bool}{j:Nat}(hj:j∉es): cntC es (fun k=>k==j||f k)=cntC es f:=by
 unfold cntC
 congr 1
 refine List.filter_congr fun k hk=>?_
 have:(k==j)=false:=by simp;intro h;subst h;exact hj hk
 rw[this,qBs]
theorem zNr{es:List Nat}{f g:Nat->Bool}(h:∀k∈es,f k=true->g k=true): cntC es f<=cntC es g:=by
 unfold cntC
 induction es with
 |nil=>simp
 |cons e r ih =>
  have:=ih fun k hk=>h k (qAk _ hk)
  rw[qBA,qBA]
  split
  ·rename_i he
   rw[if_pos (h e List.mem_cons_self he)];simpa using this
  ·split
   ·simp only[qAP];omega
   ·exact this
theorem zNs{f:Nat->Bool}: ∀{es:List Nat} {i:Nat},(∀(a:Nat) x,es[a]?=some x->f x=decide (a<i))->i<=es.length->cntC es f=i
 |[],i,_,hi=>by simp at hi;subst hi;rfl
 |e::r,0,h,_=>by
  unfold cntC
  have:(e::r).filter f=[]:=List.filter_eq_nil_iff.2 fun x hx=>by
   obtain⟨a,ha⟩:=qA0.1 hx
   rw[h a x ha];simp
  rw[this];rfl
 |e::r,i+1,h,hi=>by
  have:=zNs (f:=f) (es:=r) (i:=i) (fun a x ha=>by rw[h (a+1) x (by simpa using ha)];simp) (by simpa using hi)
  unfold cntC at this ⊢
  rw[qBA,h 0 e rfl]
  simp[this]
def zBe(P:Program)(rs:Array ResultVar)(res:D)(post:List Ob): Exit->Sl->List Ob->Prop
 | .ret,σ,η=>ResC P rs σ η res/\Fits [] post σ η
 | .normal,σ,η=>ResC P rs σ η res/\Fits [] post σ η
 |_,_,_=>False
theorem Fits.absG{C:Ctx}{g:Gh}{s σ:Sl}{h η:List Ob}{a:Act}{w:World}(f:Fits s h σ η)(hg:AbsG C g σ η a w): ∃g',AbsG C g' s h a w/\g'.St=g.St:=by
 obtain⟨f1,f2,f3,f4⟩:=f
 obtain⟨r,e1,e2⟩:=f2.ex
 have h1:=hg.get_eq f1
 have hob:∀(id:Nat) (o:Ob),(h++r)[id]?=some o->ObOk g w id o:=fun id o ho=>by
  obtain⟨o',q1,q2⟩:=e2 id o ho
  exact q2 g w id (h1.inv.ob id o' q1)
 have hi:Inv g w (h++r):={ h1.inv with n:=h1.inv.n.trans e1.symm,ob:=hob }
 have h2:AbsG C g s (h++r) a w:={ h1 with inv:=hi }
 exact⟨_,h2.cut ⟨r,rfl⟩ f3 f4,rfl⟩
theorem zJm{P:Program}{f:FuncId}{fn:Func}{c:Code}{as:List SV}{pre post:List Ob}{res:D}{N:Nat}{rs:Array ResultVar}(hf:P.funcs[f]?=some fn)(hb:fn.body=some c)(hN:fn.ntmps=N)(hrs:fn.results=rs)(hl:Nat.ble as.length N=true)
  (hk:zCz pre post=true) (hu:zFr post=true)
  (h:∀(w0:World) (St0:Stab) (X:Nat->Prop) (fx:Nat->Option Nat),awp ⟨P,N,w0,St0,X,0⟩ c (zBe P rs res (anch fx 0 pre post)) (zGU as 0) (anch fx 0 pre pre)):zAU P f as pre (.d res) post:=by
 intro g w vs hi hrep
 subst hN
 have hl:=qAM hl
 have hlen:=hrep.len
 refine calls_of_wp hf hb (h w g.St (fun b=>∃j,g.blk j=some b) g.blk _ ?_ _ _ ?_)
 ·intro e σ' η' a' w' hq ha
  have fin:(ResC P rs σ' η' res/\Fits [] (anch g.blk 0 pre post) σ' η')->a'.defers=[]/\∃v,(results fn a'.tmps).run P w' = .ok v w'/\∃v_1 g',Ending.returned v=.returned v_1/\Inv g' w' post/\RepS g' w' v_1 (.d res)/\Frame g w pre g' w':=by
   intro hq
   obtain⟨hq1,hq2⟩:=hq
   obtain⟨g0,hg0⟩:=ha
   obtain⟨v,hr,hrd⟩:=hq1.run (P:=P) hrs hg0
   obtain⟨g',hA,hSt⟩:=hq2.absG hg0
   obtain⟨hI,hbx⟩:=hA.inv.unanch hu
   refine⟨hA.defers,v,hr,v,g',rfl,hI,(by show RepD g'.St w' v res;rw[hSt];exact hrd),⟨hA.os,hA.tape,hA.output,hA.wsize,fun k hk hno=>hA.heap k hk (fun ⟨j,hj⟩=>hno j hj),hA.keep,fun b o hbo=>?_,fun j b hj=>hA.own j b hj (qAV _),fun j o hj hob=>?_⟩⟩
   ·exact hA.new b o hbo
   ·have hjp:j<pre.length:=(qAA.1 hj).1
    have hjl:j<post.length:=qAW hjp (zEE hk)
    have hp:post[j]?=some post[j]:=qAB hjl
    have hs:=zEF hk j _ _ hj hp
    obtain⟨b',hb',hc'⟩:=hbx j _ hjp hp (zD7.2 (by rw[<-hs];exact zD7.1 hob))
    obtain⟨b,o1⟩:=zJo (hi.ob j _ hj) hob
    rw[hb',o1,hc' b o1]
  cases e <;> first|exact fin hq|exact hq.elim
 ·refine⟨g,rfl,?_,hi.anch,rfl,rfl,rfl,qAN _,fun _ _ _=>rfl,Keep.refl g.St w,fun _ _ h=>.inl h,fun i b hb _=>.inr ⟨i,hb⟩,?_⟩
  ·simp[hlen];omega
  ·refine zFF vs as 0 _ hrep fun j v hj=>?_
   have hjl:j<vs.length:=(qAA.1 hj).1
   simp only[qAU,qAJ]
   rw[qAq (by simpa using hjl)]
   simp[hj]
theorem zG0{P:Program}{rs:Array ResultVar}{res:D}{post:List Ob}{σ:Sl}{η:List Ob}(h:ResC P rs σ η res)(h2:Fits [] post σ η): zBe P rs res post .ret σ η:=⟨h,h2⟩
section
variable {C:Ctx}{ops:Array Oper}{rest:List Oper}{K:Sl->List Ob->Prop}{σ:Sl}{η:List Ob}{d:Nat}{ty:TypeId}{pos:String}{after:Array Edge}{gd:Option (Nat×Bool)}{t:TypeId}{x y:Operand}
end
section
variable {C:Ctx}{l:List Oper}{es:List Nat}{ηs:List (List Ob)}{j:Nat}{r:List Oper}{s:SV}{ss:List SV}{σ:Sl}{ids:List Nat}
theorem zG9{o:Oper}: YAll C σ o s []:=trivial
theorem zDy{o:Oper}{η:List Ob}{L:List (List Ob)}(h:Ylds C.P η σ o s)(hr:YAll C σ o s L): YAll C σ o s (η::L):=⟨h,hr⟩
theorem zBT{Q:Exit->Sl->List Ob->Prop}{η h:List Ob}{s:Sl}{id:Nat}{o:Array Oper}{dr:Bool}{c:Code}(f:Fits s h σ η)(hw:awp C (.region id o dr) (zBn (awp C c Q) Q) s h): awp C ((Code.region id o dr).seq c) Q σ η:=zCI f (zAG hw)
end
section
variable {P:Program}{η:List Ob}{σ:Sl}{dst:Option Nat}{ty:TypeId}{pos:String}{after:Array Edge}{gd:Option (Nat×Bool)}{t:TypeId}{x y z:Operand}
theorem RepS.bsl0{g:Gh}{w:World}{v:Value}{id n:Nat}(h:RepS g w v (.buf id n)): RepS g w v (.bsl id 0 n):=by
 obtain⟨h1,rfl⟩:=h
 exact⟨h1,_,by rw[Nat.sub_zero],fun _=>by rw[Nat.zero_mul]⟩
theorem src_row{g:Gh}{w:World}{id e sz off n:Nat}{mu:Bool}{xs:List D}{v:Value}(hi:Inv g w η)(ho:η[id]?=some (.buf mu e sz xs))(hr:RepS g w v (.bsl id off n))(hl:off+n<=xs.length):
  ∃(sa:Option Addr) (sc:Nat) (news:List Value),v=.slice sa n sc/\news.length=n*sz/\(∀u∈news,u.oneCell'=true)/\
   (0<n->∃ad,sa=some ad/\∀(j:Nat) (u:Value),news[j]?=some u->w.cell? (ad.add j)=some u)/\
   ∀(j:Nat) (u:Value) (d:D),news[j]?=some u->(zCH ((xs.drop off).take n))[j]?=some d->RepD g.St w u d:=by
 obtain⟨hid,a,rfl,ha⟩:=hr
 obtain⟨o1,o2,o3,o4,o5⟩:=hi.ob id _ ho
 rcases Nat.eq_zero_or_pos n with h0|h0
 ·subst h0
  exact⟨a,_,[],rfl,by simp,by simp,fun c=>by omega,fun j u d hu=>by simp at hu⟩
 ·rcases o5 with⟨h1,h2⟩|⟨b,us,h1,h2,h3,h4,h5,h6⟩
  ·omega
  ·have hsz:=ha h0
   rw[h1,o1]at hsz
   have hm:(off+n)*sz<=xs.length*sz:=qAe _ hl
   have hm2:xs.length*sz<=g.cap id*sz:=qAe _ o4
   rw[qAu]at hm
   have hat:∀j u,((us.toList.drop (off*sz)).take (n*sz))[j]?=some u->j<n*sz/\us[off*sz+j]?=some u:=fun j u hu=>by
    rw[qAR]at hu
    split at hu
    ·rename_i hj
     rw[qAh]at hu
     exact⟨hj,by simpa using hu⟩
    ·cases hu
   refine⟨a,_,(us.toList.drop (off*sz)).take (n*sz),rfl,?_,fun u hu=>?_,fun _=>⟨⟨b,off*sz,none⟩,by rw[hsz];rfl,fun j u hu=>?_⟩,fun j u d hu hd=>?_⟩
   ·rw[qAK,qAb,qAS,h3];omega
   ·obtain⟨j,hj⟩:=qA0.1 hu
    obtain⟨k1,k2⟩:=hat j u hj
    exact h4 _ u (by omega) k2
   ·obtain⟨k1,k2⟩:=hat j u hu
    rw[Addr.add_lit,cell_of_row w b _ us e (0,0) h2];exact k2
   ·obtain⟨k1,k2⟩:=hat j u hu
    refine h5 _ u d k2 ?_
    rw[zDi (fun x hx=>o2 x (qAn hx)),qAR,if_pos k1,zF0 o2,qAh]at hd
    exact hd
theorem zZ7{id m sz e:Nat}{mu:Bool}{n:Int}{k:IntKind}{xs:List D}(hx:oval σ x=.buf id m)(ho:η[id]?=some (.buf mu e sz xs))(hs:zA2 P t=some sz)(hlo:oval σ y=.d (.val (.int k n)))(h:0<=n/\n<=(m:Int))(hm:m<=xs.length):
  Ylds P η σ ⟨dst,.slice t x (some y) none none,ty,pos,after,gd⟩ (.bsl id n.toNat (m-n.toNat)):=by
 obtain⟨e',i,hu,hi',hsz⟩:=zBH hs
 refine Ylds.same fun g w a hi hop=>?_
 have hr:=hop x (by simp[Op.operands]);rw[hx]at hr
 obtain⟨h1,h2⟩:=hr
 have hz:=hop y (by simp[Op.operands]);rw[hlo]at hz
 obtain⟨o1,_,_,hcl,_⟩:=hi.ob id _ ho
 refine⟨.slice (if g.cap id=n.toNat then(g.blk id).map (fun b=>(⟨b,0,none⟩:Addr))else((g.blk id).map (fun b=>(⟨b,0,none⟩:Addr))).map (fun ad:Addr=>ad.add (n.toNat*i.size))) (m-n.toNat) (g.cap id-n.toNat),?_,h1,_,rfl,fun hp=>?_⟩
 ·simp only[execOp,h2,Sem.run_bind,Sem.run_pure]
  have:=zF6 hu hi' ((g.blk id).map (⟨·,0,none⟩)) m (g.cap id) n.toNat m (some (a.eval y)) none (.inr ⟨k,by rw[RepD.val_eq hz,qAy h.1]⟩) (.inl ⟨rfl,rfl⟩) (by omega) (by omega) w
  simp only[Option.map_none,qBg,this,Result.andThen_ok]
 ·rw[if_neg (by omega),o1,hsz]
  cases g.blk id <;> simp[Addr.add_lit]
theorem zYJ{id m sz e:Nat}{mu:Bool}{n q:Int}{k k':IntKind}{xs:List D}(hx:oval σ x=.buf id m)(ho:η[id]?=some (.buf mu e sz xs))(hs:zA2 P t=some sz)(hlo:oval σ y=.d (.val (.int k n)))(hhi:oval σ z=.d (.val (.int k' q)))(h:0<=n/\n<=q/\q<=(m:Int))(hm:m<=xs.length):
  Ylds P η σ ⟨dst,.slice t x (some y) (some z) none,ty,pos,after,gd⟩ (.bsl id n.toNat (q.toNat-n.toNat)):=by
 obtain⟨e',i,hu,hi',hsz⟩:=zBH hs
 refine Ylds.same fun g w a hi hop=>?_
 have hr:=hop x (by simp[Op.operands]);rw[hx]at hr
 obtain⟨h1,h2⟩:=hr
 have hy:=hop y (by simp[Op.operands]);rw[hlo]at hy
 have hz:=hop z (by simp[Op.operands]);rw[hhi]at hz
 obtain⟨o1,_,_,hcl,_⟩:=hi.ob id _ ho
 refine⟨.slice (if g.cap id=n.toNat then(g.blk id).map (fun b=>(⟨b,0,none⟩:Addr))else((g.blk id).map (fun b=>(⟨b,0,none⟩:Addr))).map (fun ad:Addr=>ad.add (n.toNat*i.size))) (q.toNat-n.toNat) (g.cap id-n.toNat),?_,h1,_,rfl,fun hp=>?_⟩
 ·simp only[execOp,h2,Sem.run_bind,Sem.run_pure]
  have:=zF6 hu hi' ((g.blk id).map (⟨·,0,none⟩)) m (g.cap id) n.toNat q.toNat (some (a.eval y)) (some (a.eval z)) (.inr ⟨k,by rw[RepD.val_eq hy,qAy h.1]⟩) (.inr ⟨k',by rw[RepD.val_eq hz,qAy (by omega)]⟩) (by omega) (by omega) w
  simp only[Option.map_none,qBg,this,Result.andThen_ok]
 ·rw[if_neg (by omega),o1,hsz]
  cases g.blk id <;> simp[Addr.add_lit]
theorem zG8{id off n:Nat}(h:oval σ x=.bsl id off n): Ylds P η σ ⟨dst,.move x,ty,pos,after,gd⟩ (.bsl id off n):=zFb (.inl rfl) h
theorem zGl{id off n:Nat}(hx:oval σ x=.bsl id off n)(hu:(zBd P t).isSome=true): Ylds P η σ ⟨dst,.call ⟨.builtin .len, #[x], #[t]⟩,ty,pos,after,gd⟩ (.d (.val (.int .i64 (n:Int)))):=by
 obtain⟨e,he⟩:=qA4.1 hu
 have hu:=zBx he
 refine Ylds.same fun g w a hi h=>?_
 have h1:=h x (by simp[Op.operands,Call.operands]);rw[hx]at h1
 obtain⟨_,b,hv,_⟩:=h1
 refine⟨.int .i64 (n:Int),?_,.val _⟩
 simp[execOp,resolve,invoke,builtin,Builtin.len_,hv,run_underlying hu];rfl
theorem zN1{id m off sz e:Nat}{mu:Bool}{n:Int}{k:IntKind}{xs:List D}(hx:oval σ x=.bsl id off m)(hy:oval σ y=.d (.val (.int k n)))(ho:η[id]?=some (.buf mu e sz xs))(hs:zA2 P t=some sz)(h:0<=n/\n<(m:Int))(hm:off+m<=xs.length):
  Ylds P η σ ⟨dst,.indexAddr t x y,ty,pos,after,gd⟩ (.bptr id (off+n.toNat) 0):=by
 obtain⟨e',i,hu,hi',hsz⟩:=zBH hs
 refine Ylds.same fun g w a hi hop=>?_
 have hr:=hop x (by simp[Op.operands]);rw[hx]at hr
 obtain⟨h1,sa,h2,h3⟩:=hr
 have hz:=hop y (by simp[Op.operands]);rw[hy]at hz
 obtain⟨hgs,_,_,hcl,hb⟩:=hi.ob id _ ho
 have hbb:∃b,g.blk id=some b:=by
  rcases hb with⟨_,h0⟩|⟨b,_,hb,_⟩
  ·omega
  ·exact⟨b,hb⟩
 obtain⟨b,hb⟩:=hbb
 have h4:=h3 (by omega)
 rw[hb,hgs]at h4
 simp only[qBg]at h4
 subst h4
 refine⟨.pointer (some ⟨b,(off+n.toNat)*sz,none⟩),?_,h1,b,hb,by rw[hgs];rfl⟩
 simp[execOp,h2,RepD.val_eq hz,Instr.indexAt,asIntOf,run_underlying hu,h.1,h.2,sizeOf,typeInfo,hi',hsz,Addr.add_lit,Nat.add_mul]
end
section
variable {C:Ctx}{ops:Array Oper}{rest:List Oper}{K:Sl->List Ob->Prop}{σ:Sl}{η:List Ob}{d:Nat}{ty:TypeId}{pos:String}{after:Array Edge}{gd:Option (Nat×Bool)}{t:TypeId}{x y:Operand}
def zGV: SV->Option (Nat×Nat×Nat)
 | .buf id n=>some (id,0,n)
 | .bsl id off n=>some (id,off,n)
 |_=>none
theorem RepS.piece{g:Gh}{w:World}{v:Value}{s:SV}{id off n:Nat}(h:RepS g w v s)(hp:zGV s=some (id,off,n)): RepS g w v (.bsl id off n):=by
 cases s with
 |buf i m=>simp only[zGV,qBo,Prod.mk.injEq]at hp;obtain⟨rfl,rfl,rfl⟩:=hp;exact h.bsl0
 |bsl i o m=>simp only[zGV,qBo,Prod.mk.injEq]at hp;obtain⟨rfl,rfl,rfl⟩:=hp;exact h
 |_=>simp[zGV]at hp
theorem zSv{id n m e sz by' id2 off e2:Nat}{mu mu2:Bool}{xs ys:List D}(hx:oval σ x=.buf id n)(ho:η[id]?=some (.buf mu e sz xs))(hn:n<=xs.length)(hmu:mu=false->n=xs.length)
  (hy:zGV (oval σ y)=some (id2,off,m)) (ho2:η[id2]?=some (.buf mu2 e2 sz ys)) (hl:off+m<=ys.length)
  (he:zBd C.P t=some e) (hs:zA2 C.P t=some sz) (hz:zC3 C.P e=some sz) (hb:zCZ C.P t=some by') (hf:∀d∈ys,d.flat.length=sz) (hlen:(n+m)*by'<=140737488355328/\n+m<=140737488355328) (hd:Nat.blt d C.N=true) (hro:Nat.ble C.ro id=true)
  (h:alex C false ops rest K ((d,.buf id (n+m))::zFP id σ) ((zFI id η).set id (.buf mu e sz (xs.take n++(ys.drop off).take m)))) :
  zBE C false ops ⟨some d,.call ⟨.builtin .append, #[x,y], #[t,t]⟩,ty,pos,after,gd⟩ rest K σ η:=by
 obtain⟨e',i,hu,hi,hsz⟩:=zBH hs
 have:e'=e:=by have:=zBx he;rw[hu]at this;injection this with this;injection this
 subst this
 have hby:i.bytes=by':=by
  obtain⟨e2,i2,h1,h2,h3⟩:=zDE hb
  rw[hu]at h1;injection h1 with h1;injection h1 with h1;subst h1
  rw[hi]at h2;injection h2 with h2;subst h2;exact h3
 obtain⟨z,hzz,hzs⟩:=zFQ hi hz
 have hym:((ys.drop off).take m).length=m:=by rw[qAK,qAb];omega
 refine zZ6 (ys:=(ys.drop off).take m) hx ho hn hmu (fun d hd=>hf d (qAn (qAY hd))) hd hro (fun g a w us ha hcm hus=>?_) (by rw[hym];exact h)
 obtain⟨sa,sc,news,hyv,hnl,hn1,hncell,hnrep⟩:=src_row ha.inv ho2 ((ha.eval y).piece hy) hl
 have:=zHn w t ty e' i z hu hi hzz (by rw[hzs,hsz]) (g.blk id) n (g.cap id) us (by rw[hsz];exact hus) sa m sc news (by rw[hnl,hsz]) hncell hn1 (by rw[hby];exact hlen.1) (by simp only[maxLen];omega) hcm
 rw[hsz]at this
 refine⟨news,by rw[hym];exact hnl,hn1,hnrep,?_⟩
 rw[hym,hyv];exact this
end
section
variable {C:Ctx}{ops:Array Oper}{rest:List Oper}{K:Sl->List Ob->Prop}{σ:Sl}{η:List Ob}
theorem Inv.cutBuf{g:Gh}{w:World}(hi:Inv g w η){id e sz:Nat}{xs:List D}(ho:η[id]?=some (.buf true e sz xs))(n:Nat): Inv g w (η.set id (.buf true e sz (xs.take n))) where
 n:=by rw[qAa];exact hi.n
 lt:=hi.lt
 dead:=hi.dead
 inj:=hi.inj
 st:=hi.st
 gl:=hi.gl
 ob i o hio:=by
  rw[qAT]at hio
  split at hio
  ·rename_i hii
   subst hii
   split at hio
   ·injection hio with hio;subst hio
    obtain⟨o1,o2,o3,o4,o5⟩:=hi.ob id _ ho
    have hle:(xs.take n).length<=xs.length:=by rw[qAK];omega
    have hm:(xs.take n).length*sz<=xs.length*sz:=qAe _ hle
    refine⟨o1,fun x hx=>o2 x (qAY hx),o3,by omega,?_⟩
    rcases o5 with h1|⟨b,us,h1,h2,h3,h4,h5,h6⟩
    ·exact .inl h1
    ·refine .inr ⟨b,us,h1,h2,h3,fun j u hj=>h4 j u (by omega),fun j u d hu hd=>h5 j u d hu ?_,fun o=>by rw[h6];simp⟩
     rw[zDi o2]at hd
     rw[qAR]at hd
     split at hd
     ·exact hd
     ·cases hd
   ·cases hio
  ·exact hi.ob i o hio
theorem zYD{Q:Exit->Sl->List Ob->Prop}{c:Code}(id n:Nat){e sz:Nat}{xs:List D}(ho:η[id]?=some (.buf true e sz xs))(h:awp C c Q σ (η.set id (.buf true e sz (xs.take n)))): awp C c Q σ η:=by
 intro R hR a w ⟨g,ha⟩
 exact h R hR a w ⟨g,{ ha with inv:=ha.inv.cutBuf ho n }⟩
end
end Go.Sx
namespace Go.Sx
def sw(i j k:Nat): Nat:=match Nat.beq k i with
 |true=>j
 |false=>match Nat.beq k j with
  |true=>i
  |false=>k
theorem zPd(i j k:Nat): sw i j k=if k=i then j else if k=j then i else k:=by
 unfold sw
 by_cases h1:k=i
 ·subst h1;simp
 ·rw[if_neg h1]
  have:Nat.beq k i=false:=by
   cases h:Nat.beq k i with
   |false=>rfl
   |true=>exact absurd (qAf h) h1
  rw[this]
  by_cases h2:k=j
  ·subst h2;simp
  ·rw[if_neg h2]
   have:Nat.beq k j=false:=by
    cases h:Nat.beq k j with
    |false=>rfl
    |true=>exact absurd (qAf h) h2
   rw[this]
theorem zQx(i j k:Nat): sw i j (sw i j k)=k:=by
 rw[zPd,zPd]
 by_cases h1:k=i
 ·subst h1;rw[if_pos rfl]
  by_cases h2:j=k
  ·rw[if_pos h2,h2]
  ·rw[if_neg h2,if_pos rfl]
 ·rw[if_neg h1]
  by_cases h2:k=j
  ·rw[if_pos h2,if_pos rfl,h2]
  ·rw[if_neg h2,if_neg h1,if_neg h2]
theorem zaQ{i j k n:Nat}(hi:i<n)(hj:j<n)(hk:k<n): sw i j k<n:=by rw[zPd];split;exact hj;split;exact hi;exact hk
theorem zaR{i j k n:Nat}(hi:i<n)(hj:j<n)(hk:n<=k): sw i j k=k:=by rw[zPd,if_neg (by omega),if_neg (by omega)]
def zHA(i j:Nat): Nat->List Nat
 |0=>[]
 |n+1=>zHA i j n++[sw i j n]
theorem zLw(i j:Nat): ∀(n k:Nat),k<n->(zHA i j n).getD k 0=sw i j k
 |0,k,h=>by omega
 |n+1,k,h=>by
  have hl:(zHA i j n).length=n:=by
   have:∀m,(zHA i j m).length=m:=fun m=>by induction m with
    |zero=>rfl
    |succ m ih=>rw[zHA,qAD,ih];rfl
   exact this n
  rw[zHA,qAE]
  rcases qAQ k n with h1|h1
  ·rw[qAF (by omega),<-qAE];exact zLw i j n k h1
  ·have:k=n:=by omega
   subst this
   rw[qAG (by omega),hl,qBF];rfl
def renσ(ids:List Nat): Sl->Sl
 |[]=>[]
 |(k,s)::r=>(k,s.ren ids)::renσ ids r
theorem zOv(ids:List Nat): ∀(σ:Sl) (t:Nat),get (renσ ids σ) t=(get σ t).ren ids
 |[],t=>rfl
 |(k,s)::r,t=>by
  rw[renσ,zBi,zBi,zOv ids r t];split <;> rfl
def swη(i j:Nat)(η:List Ob)(ids:List Nat): List Ob:=(η.set i ((η.getD j .gone))).set j (η.getD i .gone) |>.map (Ob.ren ids)
theorem zWd{i j:Nat}{η:List Ob}{ids:List Nat}(hi:i<η.length)(hj:j<η.length)(k:Nat): (swη i j η ids)[k]?=(η[sw i j k]?).map (Ob.ren ids):=by
 unfold swη
 rw[qAL]
 congr 1
 rw[qAT,qAT,zPd]
 by_cases h1:k=i
 ·subst h1
  rw[if_pos rfl]
  by_cases h2:j=k
  ·subst h2;simp[hi]
  ·rw[if_neg h2,if_pos rfl,if_pos hi,qAE,qAB hj];rfl
 ·rw[if_neg h1]
  by_cases h2:k=j
  ·subst h2
   rw[if_pos rfl,if_pos rfl,qAa,if_pos hj,qAE,qAB hi];rfl
  ·rw[if_neg (Ne.symm h2),if_neg (Ne.symm h1),if_neg h2]
section
variable {C:Ctx}{σ:Sl}{η:List Ob}
def swG(i j:Nat)(g:Gh): Gh:={ g with blk:=fun k=>g.blk (sw i j k),cap:=fun k=>g.cap (sw i j k),sz:=fun k=>g.sz (sw i j k) }
theorem zQy{i j:Nat}{g:Gh}(hi:i<g.n)(hj:j<g.n): ∀k,k<g.n->(zHA i j g.n).getD k 0<(swG i j g).n/\(swG i j g).blk ((zHA i j g.n).getD k 0)=g.blk k/\(swG i j g).cap ((zHA i j g.n).getD k 0)=g.cap k/\(swG i j g).sz ((zHA i j g.n).getD k 0)=g.sz k:=fun k hk=>by
 rw[zLw i j g.n k hk]
 refine⟨zaQ hi hj hk,?_,?_,?_⟩
 ·show g.blk (sw i j (sw i j k))=_;rw[zQx]
 ·show g.cap (sw i j (sw i j k))=_;rw[zQx]
 ·show g.sz (sw i j (sw i j k))=_;rw[zQx]
theorem ObOk.sw{g:Gh}{w:World}{i j k:Nat}{o:Ob}(hi:i<g.n)(hj:j<g.n)(h:ObOk g w (Sx.sw i j k) o): ObOk (swG i j g) w k (o.ren (zHA i j g.n)):=by
 have hm:=zQy hi hj
 cases o with
 |bx kb et cs =>
  obtain⟨b,e,us,h1,h2,h3,h4,h5,h6⟩:=h
  refine⟨b,e,us,h1,h2,by rw[qAC];exact h3,h4,fun q u s hu hs=>?_,h6⟩
  rw[qAL]at hs
  cases hc:cs[q]? with
  |none=>rw[hc]at hs;cases hs
  |some s0=>rw[hc]at hs;injection hs with hs;subst hs;exact RepS.ren (g:=g) (g2:=swG i j g) rfl hm (h5 q u s0 hu hc)
 |buf mu e sz xs=>exact h
 |iter s pos=>exact h
 |mapq q kb l=>exact h
 |miter m since seen st =>
  obtain⟨b,bm,h1,h2,h3,h4,h5⟩:=h
  obtain⟨k1,k2,_,_⟩:=hm m h2
  exact⟨b,bm,h1,k1,by rw[k2];exact h3,h4,h5⟩
 |gone=>trivial
theorem AbsG.sw{g:Gh}{a:Act}{w:World}(h:AbsG C g σ η a w){i j:Nat}(hi:i<η.length)(hj:j<η.length)(hri:C.ro<=i)(hrj:C.ro<=j): AbsG C (swG i j g) (renσ (zHA i j η.length) σ) (swη i j η (zHA i j η.length)) a w:=by
 have hn:=h.inv.n
 rw[<-hn]at hi hj
 refine { h with inv:=?_,own:=fun id b hb hr=>?_,rep:=fun t=>?_,keep:=h.keep,new:=h.new }
 ·refine { n:=?_,lt:=fun id b hb=>h.inv.lt _ b hb,dead:=fun id hid=>?_,inj:=fun p q b hp hq=>?_,ob:=fun id o ho=>?_,st:=h.inv.st,gl:=h.inv.gl }
  ·show g.n=_
   unfold swη;rw[qAC,qAa,qAa];exact hn
  ·show g.blk (Sx.sw i j id)=none
   rw[zaR hi hj hid];exact h.inv.dead id hid
  ·have:=h.inv.inj _ _ b hp hq
   have e:=congrArg (Sx.sw i j) this
   rwa [zQx,zQx]at e
  ·rw[zWd (by omega) (by omega)]at ho
   cases hc:η[Sx.sw i j id]? with
   |none=>rw[hc]at ho;cases ho
   |some o0 =>
    rw[hc]at ho;injection ho with ho;subst ho
    have:=(h.inv.ob _ _ hc).sw hi hj
    rw[hn]at this
    exact this
 ·refine h.own (Sx.sw i j id) b hb ?_
  rw[zPd];split
  ·exact hrj
  ·split
   ·exact hri
   ·exact hr
 ·rw[zOv]
  have:=RepS.ren (g:=g) (g2:=swG i j g) (ids:=zHA i j g.n) rfl (zQy hi hj) (h.rep t)
  rw[hn]at this
  exact this
theorem zH6{Q:Exit->Sl->List Ob->Prop}{c:Code}(i j:Nat)(hi:Nat.blt i η.length=true)(hj:Nat.blt j η.length=true)(hri:Nat.ble C.ro i=true)(hrj:Nat.ble C.ro j=true)(h:awp C c Q (renσ (zHA i j η.length) σ) (swη i j η (zHA i j η.length))): awp C c Q σ η:=by
 intro R hR a w ⟨g,ha⟩
 exact h R hR a w ⟨_,ha.sw (by simpa using hi) (by simpa using hj) (qAM hri) (qAM hrj)⟩
end
open Go.RowKit
section
variable {C:Ctx}{ops:Array Oper}{rest:List Oper}{K:Sl->List Ob->Prop}{σ:Sl}{η:List Ob}{d:Nat}{ty:TypeId}{pos:String}{after:Array Edge}{gd:Option (Nat×Bool)}{t:TypeId}{x y:Operand}
end
section
variable {P:Program}{η:List Ob}{σ:Sl}{dst:Option Nat}{ty:TypeId}{pos:String}{after:Array Edge}{gd:Option (Nat×Bool)}{t:TypeId}{x y z:Operand}
end
section
variable {P:Program}{η:List Ob}{σ:Sl}{dst:Option Nat}{ty:TypeId}{pos:String}{after:Array Edge}{gd:Option (Nat×Bool)}{t yt:TypeId}{x y:Operand}
theorem zM5{k:IntKind}{m n:Int}(hx:oval σ x=.d (.val (.int k m)))(hy:oval σ y=.d (.val (.int k n))): Ylds P η σ ⟨dst,.binOp .and t x y yt,ty,pos,after,gd⟩ (.d (.val (.int k (k.wrap (BitVec.ofInt k.bits m &&& BitVec.ofInt k.bits n).toNat)))) :=
 zFN hx hy fun w=>by simp[eqGuard,binOp,Op.intBits]
theorem Y_or{k:IntKind}{m n:Int}(hx:oval σ x=.d (.val (.int k m)))(hy:oval σ y=.d (.val (.int k n))): Ylds P η σ ⟨dst,.binOp .or t x y yt,ty,pos,after,gd⟩ (.d (.val (.int k (k.wrap (BitVec.ofInt k.bits m ||| BitVec.ofInt k.bits n).toNat)))) :=
 zFN hx hy fun w=>by simp[eqGuard,binOp,Op.intBits]
end
theorem zQN{C:Ctx}{Q:Exit->Sl->List Ob->Prop}{σ:Sl}{η:List Ob}{rid:Nat}{l:List Oper}(ss:List SV)(i:Nat){x y:Operand}{t:TypeId}{d:Nat}{ty:TypeId}{pos:String}{after:Array Edge}(id:Nat){n m e sz by' id2 off e2:Nat}{mu mu2:Bool}{xs ys:List D}
  (hmx:C.P.follows .mixedOrders=true) (hB:zFK l=true) (hle:l[i]?=some ⟨some d,.call ⟨.builtin .append, #[x,y], #[t,t]⟩,ty,pos,after,none⟩) (hes:Nat.blt i ss.length=true) (hsl:Nat.ble ss.length l.length=true)
  (hbar:ss.length=l.length\/zHB l.toArray (l.length-ss.length-1)=true)
  (hs:segG C l η i ((zFI id η).set id (.buf mu e sz (xs.take n++(ys.drop off).take m))) (SV.kill id) (zFP id) 0 l ss σ)
  (hx:oval (pst σ 0 l ss (fun m=>decide (m<i))) x=.buf id n) (ho:η[id]?=some (.buf mu e sz xs)) (hy:zGV (oval (pst σ 0 l ss (fun m=>decide (m<i))) y)=some (id2,off,m)) (ho2:η[id2]?=some (.buf mu2 e2 sz ys)) (hl:off+m<=ys.length) (hn:n<=xs.length) (hmu:mu=false->n=xs.length)
  (he:zBd C.P t=some e) (hsz:zA2 C.P t=some sz) (hz:zC3 C.P e=some sz) (hb:zCZ C.P t=some by') (hf:∀d∈ys,d.flat.length=sz) (hlen:(n+m)*by'<=140737488355328/\n+m<=140737488355328) (hd:Nat.blt d C.N=true) (hro:Nat.ble C.ro id=true)
  (h:alex C true l.toArray (l.drop ss.length) (Q .normal) ((d,.buf id (n+m))::zFP id (segσ l (ss.map .y) σ)) ((zFI id η).set id (.buf mu e sz (xs.take n++(ys.drop off).take m)))):awp C (.region rid l.toArray true) Q σ η:=by
 refine zMw ss i (SV.kill id) (zFP id) _ hmx hB hle rfl rfl hes hsl hbar (zFX id) hs (fun τ hτ=>?_) h
 have op:∀z,z=x\/z=y->oval τ z=oval (pst σ 0 l ss (fun m=>decide (m<i))) z:=fun z hz=>by
  cases z with
  |tmp t=>exact hτ t (zBh (by simp[Op.operands,Call.operands];rcases hz with h|h <;> simp[h]))
  |_=>rfl
 exact EStep.of (ops:=#[]) (zSv (id:=id) ((op x (.inl rfl)).trans hx) ho hn hmu ((congrArg zGV (op y (.inr rfl))).trans hy) ho2 hl he hsz hz hb hf hlen hd hro (zAD ⟨rfl,rfl⟩))
section
variable {C:Ctx}{ops:Array Oper}{rest:List Oper}{K:Sl->List Ob->Prop}{σ:Sl}{η:List Ob}{d:Nat}{ty:TypeId}{pos:String}{after:Array Edge}{gd:Option (Nat×Bool)}{t:TypeId}{x y:Operand}
theorem zV4{id n e sz id2 off m2 e2:Nat}{mu2:Bool}{xs ys zs:List D}{t2:TypeId}(hx:oval σ x=.buf id n)(ho:η[id]?=some (.buf true e sz xs))(hn:n=xs.length)(hy:zGV (oval σ y)=some (id2,off,m2))(ho2:η[id2]?=some (.buf mu2 e2 sz zs))(hl:off+m2<=zs.length)(hys:ys=(zs.drop off).take m2)(hs:zA2 C.P t=some sz)(hf0:∀d∈zs,d.flat.length=sz)(hro:Nat.ble C.ro id=true){dst:Option Nat}(hd:zDz C.N dst)
  (h:alex C false ops rest K (put σ dst (.d (.val (.int .i64 (min ys.length xs.length:Nat))))) (η.set id (.buf true e sz (ys.take xs.length++xs.drop ys.length)))) :
  zBE C false ops ⟨dst,.call ⟨.builtin .copy, #[x,y], #[t,t2]⟩,ty,pos,after,gd⟩ rest K σ η:=by
 subst hn
 refine zKW (fun g a w ha=>?_) h
 obtain⟨e',i,hu,hi,hsz⟩:=zBH hs
 have hro:=qAM hro
 have hxr:=ha.eval x;rw[hx]at hxr
 obtain⟨hidn,hxv⟩:=hxr
 have hym:ys.length=m2:=by rw[hys,qAK,qAb];omega
 have hf:∀d∈ys,d.flat.length=sz:=fun d hd=>hf0 d (by rw[hys]at hd;exact qAn (qAY hd))
 obtain⟨sa,sc,news,hyv,hnl,hn1,hncell,hnrep⟩:=src_row ha.inv ho2 ((ha.eval y).piece hy) hl
 rw[<-hys]at hnrep
 rw[<-hym]at hyv hnl hncell
 obtain⟨o1,o2,o3,o4,o5⟩:=ha.inv.ob id _ ho
 let m:=min ys.length xs.length
 have hml:m*sz<=ys.length*sz:=qAe _ (Nat.min_le_left _ _)
 have hmx:m*sz<=xs.length*sz:=qAe _ (Nat.min_le_right _ _)
 have hfl:(zCH xs).length=xs.length*sz:=zBu o2
 have hres:ys.take xs.length++xs.drop ys.length=ys.take m++xs.drop m:=by
  rcases Nat.le_total ys.length xs.length with hle|hle
  ·have e1:m=ys.length:=qBr hle
   rw[e1,qAi hle,qA8]
  ·have e1:m=xs.length:=Nat.min_eq_right hle
   rw[e1,List.drop_of_length_le hle,List.drop_of_length_le (qAN _)]
 have hfirst:(Builtin.firstCells i.size m (.slice sa ys.length sc)).run C.P w=.ok (news.take (m*sz)).toArray w:=by
  by_cases h0:0<ys.length
  ·obtain⟨ad,rfl,hcc⟩:=hncell h0
   refine run_firstCells_some (P:=C.P) w i.size m ad ys.length sc (news.take (m*sz)) (by rw[qAK,hnl,hsz];omega) (fun j v hj=>?_)
   rw[qAR]at hj
   split at hj
   ·exact hcc j v hj
   ·cases hj
  ·have hm0:m=0:=by show min _ _=0;omega
   rw[hm0]
   cases sa <;> simp[Builtin.firstCells,loadCells,loadCellsFrom]
 have hlx:(ys.take m++xs.drop m).length=xs.length:=by
  have hm1:m<=ys.length:=Nat.min_le_left _ _
  have hm2:m<=xs.length:=Nat.min_le_right _ _
  rw[qAD,qAK,qAb];omega
 have hff:∀d∈ys.take m++xs.drop m,d.flat.length=sz:=fun d hd=>by
  rcases qAc.1 hd with hd|hd
  ·exact hf d (qAY hd)
  ·exact o2 d (qAn hd)
 have hkey:∃w',(Builtin.copy_ #[t,t2] ty #[a.eval x,a.eval y]).run C.P w=.ok (goInt (m:Nat)) w'/\AbsG C g σ (η.set id (.buf true e sz (ys.take m++xs.drop m))) a w':=by
  rcases o5 with⟨h1,h2⟩|⟨b,us,h1,h2,h3,h4,h5,h6⟩
  ·have hx0:xs=[]:=qAo (by omega)
   subst hx0
   have hm0:m=0:=by show min _ _=0;simp
   refine⟨w,?_,?_⟩
   ·rw[hxv,hyv,h1]
    rw[hm0]at hfirst
    simp[Builtin.copy_,run_underlying hu,Builtin.lenOf,sizeOf,typeInfo,hi,hfirst,hm0]
   ·rw[hm0]
    have:η.set id (.buf true e sz ([].take 0++[].drop 0))=η:=by
     refine qBq fun j=>?_
     rw[qAT]
     split
     ·rename_i hj;subst hj;rw[if_pos (qAA.1 ho).1,ho];rfl
     ·rfl
    simp only[List.take_zero,List.drop_nil,qBC]at this ⊢
    rw[this];exact ha
  ·have hxu:xs.length*sz<=us.size:=by rw[h3];exact qAe _ o4
   have hln:(news.take (m*sz)).length=m*sz:=by rw[qAK];omega
   have hst:=run_storeCells_at C.P b 0 e (news.take (m*sz)) 0 us w h2 (by omega) (fun v hv=>hn1 v (qAY hv))
   simp only[qA2,List.take_zero,qBl,qAU,hln]at hst
   refine⟨_,?_,ha.writeBuf (us':=(news.take (m*sz)++us.toList.drop (m*sz)).toArray) ho hro h1 h2 (fun o hc=>by have:=(h6 o).1 hc;cases this.1) hff (by rw[hlx];exact o4) (by simp[hln];omega) h3 (fun j u hj hu'=>?_) (fun j u d' hu' hd'=>?_)⟩
   ·rw[hxv,hyv,h1]
    simp[Builtin.copy_,run_underlying hu,Builtin.lenOf,sizeOf,typeInfo,hi,hfirst,hst,m]
   ·rw[qBN]at hu'
    rcases qAQ j (m*sz)with hj2|hj2
    ·rw[qAF (by omega)]at hu'
     exact hn1 u (qAY (qAH hu'))
    ·rw[qAG (by omega),hln,qAh,qAz]at hu'
     rw[hlx]at hj
     exact h4 _ u (by omega) hu'
   ·rw[qBN]at hu'
    rw[zDc,zDi hf,zF0 o2]at hd'
    have hly:((zCH ys).take (m*sz)).length=m*sz:=by rw[qAK,zBu hf];omega
    rcases qAQ j (m*sz)with hj2|hj2
    ·rw[qAF (by omega),qAR,if_pos hj2]at hu' hd'
     exact hnrep j u d' hu' hd'
    ·rw[qAG (by omega),qAh]at hu' hd'
     rw[hln,qAz]at hu'
     rw[hly]at hd'
     exact h5 _ u d' hu' hd'
 obtain⟨w',hrun,hab⟩:=hkey
 rw[<-hres]at hab
 refine⟨.int .i64 (m:Nat),w',?_,g,hab.put (d:=dst) hd (.val _)⟩
 simp only[execOp,resolve,invoke,builtin,Sem.run_bind,Sem.run_pure,Result.andThen_ok,qA9,qAs,qBk,hrun]
 rfl
end
end Go.Sx
namespace Go.Sx
def preC: List Code->Code->Code
 |[],x=>x
 |p::ps,x=>p.seq (preC ps x)
def zBl(C:Ctx): List Code->(Sl->List Ob->Prop)->(Exit->Sl->List Ob->Prop)->Sl->List Ob->Prop
 |[],K,_,σ,η=>K σ η
 |p::ps,K,Q,σ,η=>awp C p (zBn (zBl C ps K Q) Q) σ η
theorem aw_c{C:Ctx}{p:Code}{ps:List Code}{K:Sl->List Ob->Prop}{Q:Exit->Sl->List Ob->Prop}{σ:Sl}{η:List Ob}(h:awp C p (zBn (zBl C ps K Q) Q) σ η): zBl C (p::ps) K Q σ η:=h
theorem zZy{C:Ctx}{K:Sl->List Ob->Prop}{Q:Exit->Sl->List Ob->Prop}{σ:Sl}{η:List Ob}(h:K σ η): zBl C [] K Q σ η:=h
theorem zSg{C:Ctx}{x:Code}{K:Sl->List Ob->Prop}{Q R:Exit->Sl->List Ob->Prop}(hx:∀σ η,K σ η->awp C x R σ η)(he:∀e σ η,e≠.normal->Q e σ η->R e σ η):
  ∀(ps:List Code) (σ:Sl) (η:List Ob),zBl C ps K Q σ η->awp C (preC ps x) R σ η
 |[],σ,η,h=>hx σ η h
 |p::ps,σ,η,h=>by
  refine zAG ?_
  intro S hS a w hab
  refine h S (fun e σ' η' a' w' hq hab'=>?_) a w hab
  cases e with
  |normal=>exact hS .normal σ' η' a' w' (zSg hx he ps σ' η' hq) hab'
  |_=>exact hS _ _ _ _ _ (he _ _ _ (by intro c;cases c) hq) hab'
theorem zNv{C:Ctx}{rest rest':Code}{Q:Exit->Sl->List Ob->Prop}{σ:Sl}{η:List Ob}{α:Type}(ps:List Code)(l:Nat)(hf:findLabel (preC ps ((Code.label l).seq rest)) l=some rest')(hr:rest'=Code.skip.seq rest)(I:α->Prop)(s:α->Sl)(h:α->List Ob)(μ:α->Nat)
  (first:zBl C ps (fun σ' η'=>∃y,I y/\Fits (s y) (h y) σ' η') (zBq l (fun _ _=>False) Q) σ η)
  (pass:∀x,I x->awp C rest (zBq l (fun σ' η'=>∃y,I y/\μ y<μ x/\Fits (s y) (h y) σ' η') Q) (s x) (h x)):awp C (.scope (preC ps ((Code.label l).seq rest))) Q σ η:=by
 subst hr
 have conv0:∀x,I x->awp C rest (zBq l (fun σ' η'=>∃y,I y/\μ y<μ x/\s y=σ'/\h y=η') Q) (s x) (h x):=by
  intro x hx R hR a w hab
  exact pass x hx R (fun e σ' η' a' w' hq hab'=>by
   cases e with
   |goto l'=>obtain⟨e1,y,h1,h2,h3⟩:=hq;exact hR (.goto l') _ _ a' w' ⟨e1,y,h1,h2,rfl,rfl⟩ (h3.abs hab')
   |_=>exact hR _ _ _ _ _ hq hab') a w hab
 have conv:∀x,I x->awp C (Code.skip.seq rest) (zBq l (fun σ' η'=>∃y,I y/\μ y<μ x/\s y=σ'/\h y=η') Q) (s x) (h x):=fun x hx=>zAG (zAR (conv0 x hx))
 refine zQL l hf I s h μ ?_ conv
 refine zSg (K:=fun σ' η'=>∃y,I y/\Fits (s y) (h y) σ' η') (Q:=zBq l (fun _ _=>False) Q) ?_ ?_ ps σ η first
 ·rintro σ' η' ⟨y,h1,h2⟩
  refine zAG (zSi ?_)
  intro R hR a w hab
  refine conv0 y h1 R (fun e σ' η' a' w' hq hab'=>?_) a w (h2.abs hab)
  cases e with
  |goto l'=>obtain⟨e1,z,z1,z2,z3,z4⟩:=hq;exact hR (.goto l') _ _ a' w' ⟨e1,z,z1,z3,z4⟩ hab'
  |_=>exact hR _ _ _ _ _ hq hab'
 ·intro e σ' η' hne hq
  cases e with
  |goto l'=>exact hq.2.elim
  |normal=>exact absurd rfl hne
  |_=>exact hq
open Go.RowKit
def rowP(o:Option Nat)(n:Nat)(v:Value): Prop:=∃b,o=some b/\v=.slice (some ⟨b,0,none⟩) n n
section
variable {P:Program}{η:List Ob}{σ:Sl}{dst:Option Nat}{ty:TypeId}{pos:String}{after:Array Edge}{gd:Option (Nat×Bool)}{t yt:TypeId}{x y:Operand}
theorem zLk{φ:Value->Prop}(h:oval σ x=.p φ): Ylds P η σ ⟨dst,.move x,ty,pos,after,gd⟩ (.p φ):=zFb (.inl rfl) h
theorem zQX{φ:Value->Prop}(h:oval σ x=.p φ): Ylds P η σ ⟨dst,.assign x,ty,pos,after,gd⟩ (.p φ):=zFb (.inr rfl) h
theorem Y_index_row{id m:Nat}{n:Int}{k:IntKind}{o:Option Nat}{et:Option TypeId}{cs:List SV}(hx:oval σ x=.p (rowP o m))(hy:oval σ y=.d (.val (.int k n)))(ho:η[id]?=some (.bx o et cs))(hs:zA2 P t=some 1)(h:0<=n/\n<(m:Int)):
  Ylds P η σ ⟨dst,.indexAddr t x y,ty,pos,after,gd⟩ (.ptr id n.toNat):=by
 refine Ylds.same fun g w a hi hr=>?_
 obtain⟨e,i,hu,hinf,hsz⟩:=zBH hs
 have hxr:=hr x (by simp[Op.operands])
 rw[hx]at hxr
 obtain⟨b,hb,hv⟩:=hxr
 have hyr:=hr y (by simp[Op.operands])
 rw[hy]at hyr
 obtain⟨b',e',us,o1,o2,o3,o4,o5,o6,o7,o8⟩:=hi.ob id _ ho
 have hbb:b=b':=o7 b hb
 subst hbb
 refine⟨.pointer (some ⟨b,n.toNat,none⟩),?_,⟨by rw[hi.n];exact(qAA.1 ho).1,b,o1,rfl⟩⟩
 simp[execOp,hv,RepD.val_eq hyr,Instr.indexAt,asIntOf,run_underlying hu,h.1,h.2,sizeOf,typeInfo,hinf,hsz,Addr.add_lit]
end
section
variable {C:Ctx}{ops:Array Oper}{rest:List Oper}{K:Sl->List Ob->Prop}{σ:Sl}{η:List Ob}{d:Nat}{ty:TypeId}{pos:String}{after:Array Edge}{gd:Option (Nat×Bool)}{t:TypeId}{x y:Operand}
theorem zYH(et:Option TypeId){g:Gh}{a:Act}{w:World}(ha:AbsG C g σ η a w)(e:TypeId)(het:∀t,et=some t->t=e)(us:Array Value)(cs:List SV)(s:SV)(v:Value)(hsv:∀g' w',RepS g' w' v s)(hd:Nat.blt d C.N=true)(hro:C.ro<=η.length)(hl:us.size=cs.length)(h1:∀u∈us,u.oneCell'=true)
  (hr:∀(j:Nat) (u:Value) (s:SV),us[j]?=some u->cs[j]?=some s->RepS g w u s) :
  Abs C ((d,s)::σ) (η++[.bx (some w.heap.size) et cs]) (a.put (some d) v) (w.alloc (.cells us e)):=by
 have hn:=ha.inv.n
 let g':Gh:={ g with blk:=upd g.blk g.n (some w.heap.size),n:=g.n+1 }
 have hold:∀id,id<g.n->g'.blk id=g.blk id/\g'.cap id=g.cap id/\g'.sz id=g.sz id:=fun id hid=>⟨by simp[g',upd,Nat.ne_of_lt hid],rfl,rfl⟩
 have hbn:g'.blk g.n=some w.heap.size:=by simp[g',upd]
 have kp:Keep g.St w g'.St (w.alloc (.cells us e)):=⟨fun _ _ h=>h,fun b o u hb hu=>(World.cell?_of_block (a:=⟨b,o,none⟩) (Below.heap_alloc w _ b (ha.inv.st b o hb))).trans hu,fun b hb=>Below.heap_alloc w _ b (ha.inv.st b 0 (hb 0))⟩
 have hab:=ha.newOb (g':=g') (w':=w.alloc (.cells us e)) (.bx (some w.heap.size) et cs) rfl rfl rfl (by simp) (fun k hk=>Below.heap_alloc w _ k hk) rfl hold
  (fun id hid=>by
   have hne:id≠g.n:=by omega
   simp only[g',upd,if_neg hne]
   exact ha.inv.dead id (by omega)) (fun b hb=>by rw[hbn]at hb;injection hb with hb;subst hb;simp) (fun _ _ h=>h) (fun _ _ h=>.inl h) (fun b o hb=>qAW (ha.inv.st b o hb) (by simp)) (by rw[hn];exact hro)
  ⟨w.heap.size,e,us,hbn,_root_.Go.heap_alloc_new w _,hl,h1,fun j u s hu hs=>(hr j u s hu hs).ext kp hold (by simp[g']),fun o ho=>absurd (ha.inv.st _ o ho) (by omega),⟨fun c h=>(by injection h with h;exact h.symm),het⟩⟩
 exact⟨g',hab.put (d:=some d) hd (hsv _ _)⟩
theorem zVL{e by':Nat}{zd:D}{n:Int}{k k':IntKind}(hx:oval σ x=.d (.val (.int k n)))(hy:oval σ y=.d (.val (.int k' n)))(he:zBd C.P t=some e)(hs:zA2 C.P t=some 1)(hz:zIk C.P e=some zd)(hzl:zd.flat=[zd])(hb:zCZ C.P t=some by')
  (hd:Nat.blt d C.N=true) (hro:Nat.ble C.ro η.length=true) (hn:0<=n/\n*by'<=281474976710656/\n<=281474976710656)
  (h:∀o,alex C false ops rest K ((d,.p (rowP o n.toNat))::σ) (η++[.bx o (some e) (List.replicate n.toNat (.d zd))])) :
  zBE C false ops ⟨some d,.makeSlice t x y,ty,pos,after,gd⟩ rest K σ η:=by
 intro Q hQ a w ⟨g,ha⟩ K' hK'
 obtain⟨e',i,hu,hi,hsz⟩:=zBH hs
 have:e'=e:=by have:=zBx he;rw[hu]at this;injection this with this;injection this
 subst this
 have hby:i.bytes=by':=by
  obtain⟨e2,i2,h1,h2,h3⟩:=zDE hb
  rw[hu]at h1;injection h1 with h1;injection h1 with h1;subst h1
  rw[hi]at h2;injection h2 with h2;subst h2;exact h3
 obtain⟨z,hzz,hzs,hz1,hzr⟩:=zGp hi hz
 have hxr:=ha.eval x;rw[hx]at hxr
 have hyr:=ha.eval y;rw[hy]at hyr
 have hrun:=run_make (P:=C.P) w t e' i z hu hi hzz k k' n n hn.1 (qBG _) (by rw[hby,Int.mul_comm];exact hn.2.1) (by omega)
 rw[hzl]at hzs
 have hg0:∀(j:Nat) (u:Value),(madeCells z.cells (n.toNat*i.size))[j]?=some u->j<n.toNat/\z.cells[0]?=some u:=by
  intro j u hu
  unfold madeCells at hu
  rw[hsz]at hu
  obtain⟨hj,hu⟩:=qAr.1 hu
  simp at hj
  simp only[Array.getElem_map,Array.getElem_range]at hu
  have hm:0<z.cells.size:=by rw[hzs];exact Nat.one_pos
  have h0:j%z.cells.size=0:=by rw[hzs];exact Nat.mod_one j
  refine⟨by omega,?_⟩
  rw[h0,getElem!_pos z.cells 0 hm]at hu
  rw[qAI hm,hu]
 have hb0:=zYH (some e') (d:=d) ha e' (fun t ht=>by injection ht with ht;exact ht.symm) (madeCells z.cells (n.toNat*i.size)) (List.replicate n.toNat (.d zd)) (.p (rowP (some w.heap.size) n.toNat)) (.slice (some ⟨w.heap.size,0,none⟩) n.toNat n.toNat) (fun _ _=>⟨_,rfl,rfl⟩) hd (qAM hro) (by rw[size_madeCells,hsz,qAm,Nat.mul_one])
  (fun u hu=>by obtain⟨j,hj⟩:=Array.getElem?_of_mem hu;exact hz1 u (qA7 (hg0 j u hj).2))
  (fun j u s hu hs=>by
   obtain⟨h1,h2⟩:=hg0 j u hu
   rw[List.getElem?_replicate,if_pos h1]at hs
   injection hs with hs
   subst hs
   exact hzr g.St w 0 u zd h2 (by rw[hzl];rfl))
 have hrun2:(execOp a.eval ⟨some d,.makeSlice t x y,ty,pos,after,gd⟩).run C.P w=.ok (.value (.slice (some ⟨w.heap.size,0,none⟩) n.toNat n.toNat)) (w.alloc (.cells (madeCells z.cells (n.toNat*i.size)) e')):=by
  simp only[execOp,Sem.run_bind,RepD.val_eq hxr,RepD.val_eq hyr,hrun];rfl
 unfold Oper.wp
 rw[hrun2]
 exact hK' _ _ (h _ Q hQ _ _ hb0)
def zBj(P:Program)(f:FuncId)(as:List SV)(j n:Nat)(pre:List Ob)(res:SV)(post:List Ob): Prop :=
 ∀(g:Gh) (w:World) (vs:List Value),Inv g w pre->RepSs g w vs (as++[.p (rowP (g.blk j) n)])->
  Calls P f vs.toArray w (fun e w'=>∃v g',e=.returned v/\Inv g' w' post/\RepS g' w' v res/\Frame g w pre g' w')
theorem zJn{P:Program}{f:FuncId}{fn:Func}{c:Code}{as:List SV}{j n:Nat}{pre post:List Ob}{res:SV}{N:Nat}{rs:Array ResultVar}(hf:P.funcs[f]?=some fn)(hb:fn.body=some c)(hN:fn.ntmps=N)(hrs:fn.results=rs)(hl:Nat.ble (as.length+1) N=true)
  (hk:zCz pre post=true) (hu:zFr post=true)
  (h:∀(w0:World) (St0:Stab) (X:Nat->Prop) (fx:Nat->Option Nat),awp ⟨P,N,w0,St0,X,0⟩ c (zBm rs res (anch fx 0 pre post)) (zGU (as++[.p (rowP (fx j) n)]) 0) (anch fx 0 pre pre)):zBj P f as j n pre res post:=by
 intro g w _ hi hrep
 exact mcall_of1 hf hb hN hrs (by rw[qAD];exact hl) hk hu (fun w0 St0 X=>h w0 St0 X g.blk) w _ hi hrep
where
 mcall_of1 {P:Program} {f:FuncId} {fn:Func} {c:Code} {g:Gh} {as:List SV} {pre post:List Ob} {res:SV} {N:Nat} {rs:Array ResultVar} (hf:P.funcs[f]?=some fn) (hb:fn.body=some c) (hN:fn.ntmps=N) (hrs:fn.results=rs) (hl:Nat.ble as.length N=true)
   (hk:zCz pre post=true) (hu:zFr post=true)
   (h:∀(w0:World) (St0:Stab) (X:Nat->Prop),awp ⟨P,N,w0,St0,X,0⟩ c (zBm rs res (anch g.blk 0 pre post)) (zGU as 0) (anch g.blk 0 pre pre)) (w:World) (vs:List Value) (hi:Inv g w pre) (hrep:RepSs g w vs as) :
   Calls P f vs.toArray w (fun e w'=>∃v g',e=.returned v/\Inv g' w' post/\RepS g' w' v res/\Frame g w pre g' w'):=by
  subst hN
  have hl:=qAM hl
  have hlen:=hrep.len
  refine calls_of_wp hf hb (h w g.St (fun b=>∃j,g.blk j=some b) _ ?_ _ _ ?_)
  ·intro e σ' η' a' w' hq ha
   have fin:MRes rs res (anch g.blk 0 pre post) σ' η'->a'.defers=[]/\∃v,(results fn a'.tmps).run P w' = .ok v w'/\∃v_1 g',Ending.returned v=.returned v_1/\Inv g' w' post/\RepS g' w' v_1 res/\Frame g w pre g' w':=by
    intro hq
    obtain⟨v,g',σ2,hr,hA,hrep'⟩:=hq.abs (P:=P) hrs ha
    obtain⟨hI,hbx⟩:=hA.inv.unanch hu
    refine⟨hA.defers,v,hr,v,g',rfl,hI,hrep',⟨hA.os,hA.tape,hA.output,hA.wsize,fun k hk hno=>hA.heap k hk (fun ⟨j,hj⟩=>hno j hj),hA.keep,fun b o hbo=>?_,fun j b hj=>hA.own j b hj (qAV _),fun j o hj hob=>?_⟩⟩
    ·exact hA.new b o hbo
    ·have hjp:j<pre.length:=(qAA.1 hj).1
     have hjl:j<post.length:=qAW hjp (zEE hk)
     have hp:post[j]?=some post[j]:=qAB hjl
     have hs:=zEF hk j _ _ hj hp
     obtain⟨b',hb',hc'⟩:=hbx j _ hjp hp (zD7.2 (by rw[<-hs];exact zD7.1 hob))
     obtain⟨b,o1⟩:=zJo (hi.ob j _ hj) hob
     rw[hb',o1,hc' b o1]
   cases e <;> first|exact fin hq|exact hq.elim
  ·refine⟨g,rfl,?_,hi.anch,rfl,rfl,rfl,qAN _,fun _ _ _=>rfl,Keep.refl g.St w,fun _ _ h=>.inl h,fun i b hb _=>.inr ⟨i,hb⟩,?_⟩
   ·simp[hlen];omega
   ·refine zFF vs as 0 _ hrep fun j v hj=>?_
    have hjl:j<vs.length:=(qAA.1 hj).1
    simp only[qAU,qAJ]
    rw[qAq (by simpa using hjl)]
    simp[hj]
theorem RepSs.last{g:Gh}{w:World}{φ ψ:Value->Prop}(h:∀v,φ v->ψ v): ∀{vs:List Value} {as:List SV},RepSs g w vs (as++[.p φ])->RepSs g w vs (as++[.p ψ])
 |[],[],hr=>hr.elim
 |v::_,[],hr=>⟨h v hr.1,hr.2⟩
 |[],_::_,hr=>hr.elim
 |_::_,_::_,hr=>⟨hr.1,RepSs.last h hr.2⟩
theorem zSt{f:FuncId}{args:List Operand}{ts:Array TypeId}{as:List SV}{pre post:List Ob}{res:SV}{n i:Nat}{et:Option TypeId}{cs:List SV}(ids:List Nat)(j:Nat)(o:Option Nat)(hb:zAO C.P f=true)(hc:zBj C.P f as j n pre res post)(hij:ids[j]?=some i)(hj:η[i]?=some (.bx o et cs))(ha:SArgs σ ids args (as++[.p (rowP o n)]))(hp:Picks η ids pre)(hd:Nat.blt d C.N=true)
  (hn:ids.Nodup) (hlen:ids.length=pre.length) (hu:zFr pre=true) (hbl:pre.all (Ob.below pre.length)=true) (hba:as.all (SV.bel pre.length)=true) (hk:zHO pre post=true) (hro:ids.all (fun i=>Nat.ble C.ro i)=true)
  (h:alex C false ops rest K ((d,res.ren ids)::zD2 (zBo ids pre) ids σ) (zDT (zEc (zBo ids pre) ids η) ids (post.map (Ob.ren ids)))) :
  zBE C false ops ⟨some d,.call ⟨.value (.func f),args.toArray,ts⟩,ty,pos,after,gd⟩ rest K σ η:=by
 intro Q hQ a w ⟨g,hg⟩ K' hK'
 obtain⟨e1,e2⟩:=ha.rep hg
 unfold Oper.wp
 have hrun:(execOp a.eval ⟨some d,.call ⟨.value (.func f),args.toArray,ts⟩,ty,pos,after,gd⟩).run C.P w=.ok (.enter f (args.map a.eval).toArray) w:=by
  simp only[execOp,resolve,Act.eval,Deferred.ofValue,invoke,Sem.run_bind,Sem.run_pure,Result.andThen_ok,qA9,Array.empty_append,Array.append_empty]
  exact zEX hb
 rw[hrun,Oper.upon_enter]
 have hr:=RepSs.callee (g:=g) (w:=w) hlen (args.map a.eval) (as++[.p (rowP o n)]) e2 (by simp[e1]) (by rw[List.all_append,hba];rfl)
 have hr2:RepSs (zBy g ids) w (args.map a.eval) (as++[.p (rowP ((zBy g ids).blk j) n)]):=by
  refine hr.last fun v hv=>?_
  obtain⟨b,h1,h2⟩:=hv
  refine⟨b,?_,h2⟩
  obtain⟨b',_,_,o1,_,_,_,_,_,o7,_⟩:=hg.inv.ob i _ hj
  have:b=b':=o7 b h1
  subst this
  show (ids[j]?).bind g.blk=some b
  rw[hij];exact o1
 refine(hc (zBy g ids) w _ (hg.inv.callee hn hlen hp hu hbl) hr2).mono fun e w' ⟨v,g',he,hI,hres,hF⟩=>?_
 subst he
 obtain⟨hk1,hk2⟩:=zFT hk
 obtain⟨g2,h1,h2⟩:=hg.called hn hlen hp hk1 hro hI hres hF
 obtain⟨e3,e4⟩:=zKv (ids:=ids) (η:=η) hk2
 rw[e3]at h1;rw[e4]at h2
 exact hK' _ _ (h Q hQ _ w' ⟨g2,h1.put (d:=some d) hd h2⟩)
theorem Abs.torow{a:Act}{w:World}(id k n:Nat){o:Option Nat}{e:TypeId}{xs:List D}(hk:get σ k=.p (rowP o n))(ho:η[id]?=some (.bx o (some e) (xs.map .d)))(hn:n=xs.length)(hnm:n<=maxLen)(hf:∀d∈xs,d.flat=[d])(_hro:C.ro<=id)(h:Abs C σ η a w):
  Abs C ((k,.buf id n)::zFP id σ) ((zFI id η).set id (.buf true e 1 xs)) a w:=by
 obtain⟨g,ha⟩:=h
 have hidl:id<η.length:=(qAA.1 ho).1
 obtain⟨b,e',us,o1,o2,o3,o4,o5,o6,o7,o8⟩:=ha.inv.ob id _ ho
 have he:e=e':=o8 e rfl
 subst he
 rw[qAC]at o3
 let g':Gh:={ g with cap:=upd g.cap id n,sz:=upd g.sz id 1 }
 have rk:∀{v:Value} {s:SV},RepS g w v s->RepS g' w v (s.kill id):=fun r=>RepS.other (g:=g) (g':=g') (id:=id) (Keep.refl g.St w) (fun i hi=>⟨rfl,by simp[g',upd,hi],by simp[g',upd,hi]⟩) rfl r
 have hflat:zCH xs=xs:=by
  have:∀l:List D,(∀d∈l,d.flat=[d])->zCH l=l:=fun l=>by
   induction l with
   |nil=>intro _;rfl
   |cons d r ih=>intro h;show d.flat++zCH r=_;rw[h d (by simp),ih fun x hx=>h x (qAk _ hx)];rfl
  exact this xs hf
 refine⟨g',ha.defers,ha.size,⟨by rw[qAa,zDX];exact ha.inv.n,ha.inv.lt,ha.inv.dead,ha.inv.inj,fun i ob hi=>?_,ha.inv.st,ha.inv.gl⟩,ha.os,ha.tape,ha.output,ha.wsize,ha.heap,ha.keep,ha.new,ha.own,fun t=>?_⟩
 ·rw[qAT]at hi
  split at hi
  ·rename_i hc;subst hc
   rw[if_pos (by rw[zDX];exact hidl)]at hi
   injection hi with hi;subst hi
   refine⟨by simp[g',upd],fun d hd=>by rw[hf d hd];rfl,by simp only[g',upd,if_true];omega,by simp only[g',upd,if_true];omega,.inr ⟨b,us,o1,o2,by simp only[g',upd,if_true];omega,fun j u hj hu=>o4 u (qA7 hu),fun j u d hu hd=>?_,fun o=>⟨fun h=>absurd h (o6 o),fun h=>by cases h.1⟩⟩⟩
   rw[hflat]at hd
   exact o5 j u (.d d) hu (by rw[qAL,hd];rfl)
  ·rename_i hc
   rw[zGb]at hi
   cases hη:η[i]? with
   |none=>rw[hη]at hi;cases hi
   |some o0 =>
    rw[hη]at hi
    injection hi with hi
    subst hi
    have hob:=ha.inv.ob i _ hη
    cases o0 with
    |bx k et cs =>
     obtain⟨b,e,us,h1,h2,h3,h4,h5,h6,h7⟩:=hob
     refine⟨b,e,us,h1,h2,by rw[qAC];exact h3,h4,fun j u s hu hs=>?_,h6,h7⟩
     rw[qAL]at hs
     cases hcs:cs[j]? with
     |none=>rw[hcs]at hs;cases hs
     |some s0 =>
      rw[hcs]at hs;injection hs with hs;subst hs
      exact rk (h5 j u s0 hu hcs)
    |buf mu e sz xs =>
     have hne:¬i=id:=fun c=>hc c.symm
     obtain⟨h1,h2,h3,h4,h5⟩:=hob
     exact⟨by simp only[g',upd,if_neg hne];exact h1,h2,by simp only[g',upd,if_neg hne];exact h3,by simp only[g',upd,if_neg hne];exact h4,by simp only[g',upd,if_neg hne];exact h5⟩
    |iter s pos=>exact hob
    |mapq q k l=>exact hob
    |miter m since seen st =>
     simp only[Ob.kill]
     split
     ·trivial
     ·exact hob
    |gone=>trivial
 ·rw[zBi]
  split
  ·rename_i hkt;subst hkt
   have hr:=ha.rep k
   rw[hk]at hr
   obtain⟨b',h1,h2⟩:=hr
   have:b'=b:=o7 b' h1
   subst this
   refine⟨by show id<g.n;rw[ha.inv.n];exact hidl,?_⟩
   rw[h2]
   simp[g',upd,o1]
  ·rw[zFX];exact rk (ha.rep t)
theorem zSf{Q:Exit->Sl->List Ob->Prop}{c:Code}(id k n:Nat){o:Option Nat}{e:TypeId}{xs:List D}(hk:get σ k=.p (rowP o n))(ho:η[id]?=some (.bx o (some e) (xs.map .d)))(hn:n=xs.length)(hnm:n<=maxLen)(hf:∀d∈xs,d.flat=[d])(hro:Nat.ble C.ro id=true)
  (h:awp C c Q ((k,.buf id n)::zFP id σ) ((zFI id η).set id (.buf true e 1 xs))):awp C c Q σ η:=by
 intro R hR a w hab
 exact h R hR a w (hab.torow id k n hk ho hn hnm hf (qAM hro))
end
def upC(l:List Oper)(es:List Nat)(j:Nat): Nat:=(es.filter fun e=>!zFO l.toArray l.length e j).length
def zL5(C:Ctx)(l:List Oper)(es:List Nat)(ηs:List (List Ob))(j:Nat)(o:Oper)(s:SV)(σ:Sl): Prop:=match idxC es j with
 |some i=>∀τ,(∀t,t∈o.looksAt l.toArray->get τ t=get σ t)->EStep C o (fun σ' η'=>σ'=put τ o.dst s/\η'=ηs.getD (i+1) []) τ (ηs.getD i [])
 |none=>YAll C σ o s ((ηs.take (upC l es j+1)).drop (lowC l es j))
def segS(C:Ctx)(l:List Oper)(es:List Nat)(ηs:List (List Ob)): Nat->List Oper->List SV->Sl->Prop
 |j,o::r,s::ss,σ=>(o.guard=none/\zDz C.N o.dst/\zL5 C l es ηs j o s σ)/\segS C l es ηs (j+1) r ss (put σ o.dst s)
 |_,_,_,_=>True
theorem zRA{C:Ctx}{l:List Oper}{es:List Nat}{ηs:List (List Ob)}: ∀(r:List Oper) (ss:List SV) (j:Nat) (σ:Sl),segS C l es ηs j r ss σ->∀(i:Nat) o s,r[i]?=some o->ss[i]?=some s->
  o.guard=none/\zDz C.N o.dst/\match idxC es (j+i)with
   |some k=>∀τ,(∀t,t∈o.looksAt l.toArray->get τ t=get (pst σ j r ss (fun m=>decide (m<j+i))) t)->EStep C o (fun σ' η'=>σ'=put τ o.dst s/\η'=ηs.getD (k+1) []) τ (ηs.getD k [])
   |none=>∀(q:Nat) (η:List Ob),lowC l es (j+i)<=q->q<=upC l es (j+i)->ηs[q]?=some η->∀τ,(∀x∈o.op.operands,oval τ x=oval (pst σ j r ss (fun m=>decide (m<j+i))) x)->Ylds C.P η τ o s
 |_,[],_,_,_,i,o,s,_,hs=>by simp at hs
 |[],_::_,_,_,_,i,o,s,ho,_=>by simp at ho
 |o::r,s::ss,j,σ,h,0,o',s',ho,hs=>by
  simp at ho hs;subst ho;subst hs
  have e0:∀t,get (pst σ j (o::r) (s::ss) (fun m=>decide (m<j+0))) t=get σ t:=by
   intro t
   have:=zCN t (o::r) (s::ss) σ σ j (fun m=>decide (m<j+0)) (fun _=>false) rfl (fun i o' hi hne=>by simp at hne)
   rw[this,zDP]
  obtain⟨⟨h1,h2,h4⟩,_⟩:=h
  refine⟨h1,h2,?_⟩
  unfold zL5 at h4
  rw[qA2]at *
  split
  ·rename_i k hk
   rw[hk]at h4
   exact fun τ hτ=>h4 τ fun t ht=>by rw[hτ t ht,e0]
  ·rename_i hk
   rw[hk]at h4
   intro q η hq hq2 hη τ hτ
   refine(h4.get (q-lowC l es j) η ?_).congr fun x hx=>(hτ x hx).trans (zCx (fun t=>by rw[e0]) x)
   rw[qAh,Nat.add_sub_cancel' hq,qAR,if_pos (by omega)];exact hη
 |o::r,s::ss,j,σ,h,i+1,o',s',ho,hs=>by
  have:=zRA r ss (j+1) _ h.2 i o' s' (by simpa using ho) (by simpa using hs)
  have hj:j+(i+1)=j+1+i:=by omega
  have hd:decide (j<j+1+i)=true:=by simp;omega
  simp only[pst,hj,hd]
  exact this
theorem zJ9{C:Ctx}{Q:Exit->Sl->List Ob->Prop}{σ:Sl}{η:List Ob}{id:Nat}{l:List Oper}(ss:List SV)(es:List Nat)(ηs:List (List Ob))
  (hm:C.P.follows .mixedOrders=true) (hB:zFK l=true) (hsl:Nat.ble ss.length l.length=true) (hbar:ss.length=l.length\/zHB l.toArray (l.length-ss.length-1)=true) (hes:(es.all fun e=>Nat.blt e ss.length)=true) (hch:zKq l es=true)
  (hη:Nat.beq ηs.length (es.length+1)=true) (h0:ηs.getD 0 []=η)
  (hs:segS C l es ηs 0 l ss σ) (h:alex C true l.toArray (l.drop ss.length) (Q .normal) (segσ l (ss.map .y) σ) (ηs.getD es.length [])):awp C (.region id l.toArray true) Q σ η:=by
 intro R hR a w ⟨g,hg⟩
 have hsl:=qAM hsl
 have hη:=qAf hη
 have hd0:Abs C σ η a { w with drawn:=w.drawn+1 }:=⟨g,hg.grow ⟨rfl,rfl,rfl,rfl,rfl,rfl,rfl,qAN _,fun _ _=>rfl,fun _ _ h=>h,fun _ _ h=>.inl h,hg.inv.st⟩⟩
 have hsv:(ss.map SegK.y).map SegK.sv=ss:=by rw[qBt];exact List.map_id ss
 have hat:=zRA l ss 0 σ hs
 have hnd:es.Nodup:=by
  rw[List.nodup_iff_pairwise_ne,List.pairwise_iff_getElem]
  intro i j hi hj hij
  have:=(zFL hch i j _ _ hij (qAB hi) (qAB hj)).1
  omega
 let I:(Nat->Bool)->Act->World->Prop:=fun f a w=>Abs C (pst σ 0 l ss f) (ηs.getD (cntC es f) []) a w
 refine wp_region_any hm (zKY (C:=C) (K:=Q .normal) (fun σ' η' a w hk hab=>hR _ _ _ _ _ hk hab) hB ss.length hsl hbar I ?_ ?_ _ _ a _ (by simp) ?_ ?_ (fun i _ hi=>?_) ?_)
 ·intro f a w hf hI
  refine⟨_,_,h,?_⟩
  have hc:cntC es f=es.length:=by
   unfold cntC
   rw[List.filter_eq_self.2 fun e he=>hf e (by have:=qAX.1 hes e he;simpa using this)]
  simp only[I,hc]at hI
  have:=zHl l (ss.map .y) 0 σ f (fun i hi=>by rw[qAU];exact hf i (by simpa using hi))
  rw[hsv]at this
  rw[this]at hI;exact hI
 ·intro f j o a w hjm hlj hun hcl hdep hI
  obtain⟨s,hsj⟩:∃s,ss[j]?=some s:=⟨_,qAB hjm⟩
  have same:=zGx (σ:=σ) (ss:=ss) hB hlj hun hcl hdep
  have next:=zGy (σ:=σ) hB hlj hsj hun hcl
  obtain⟨hgd,hdst,hop⟩:=hat j o s hlj hsj
  rw[qAU]at hop
  have hcl':∀j o,l.toArray[j]?=some o->f j=true->∀e∈o.after,Region.binds .any e=true->f e.on=true:=fun j o ho=>hcl j o (by simpa using ho)
  have hreach:∀e,zFO l.toArray l.length j e=true->f e=true:=fun e hr=>zCe hcl' l.length j o (by simpa using hlj) hdep hr
  simp only[I]at hI
  split at hop
  ·
   rename_i i hi
   have hei:=zJp es j _ hi
   have hE:=hop
   have hcnt:cntC es f=i:=zNs (fun b x hb=>by
    rcases qBJ b i with hlt|heq|hgt
    ·rw[hreach x (zFL hch b i x j hlt hb hei).2];exact(decide_eq_true hlt).symm
    ·subst heq;rw[hb]at hei;injection hei with hei;subst hei;rw[hun];simp
    ·have hr:=(zFL hch i b j x hgt hei hb).2
     cases hfx:f x with
     |false=>exact(decide_eq_false (by omega)).symm
     |true =>
      exfalso
      have hxl:∃ox,l[x]?=some ox:=by
       have hxs:x<ss.length:=by have:=qAX.1 hes x (qAH hb);simpa using this
       exact⟨_,qAB (by omega)⟩
      obtain⟨ox,hox⟩:=hxl
      have:=zCe hcl' l.length x ox (by simpa using hox) (fun e he hbn=>hcl x ox hox hfx e he hbn) hr
      rw[hun]at this;cases this) (by have:=(qAA.1 hei).1;omega)
   rw[hcnt]at hI
   refine .inl ⟨by unfold Region.wanted;rw[hgd],?_⟩
   refine Oper.wp_mono ?_ (hE _ (fun t ht=>same t ht) _ a w hI)
   rintro a' w' ⟨σ',η'',⟨rfl,rfl⟩,hab⟩
   simp only[I,zO7 hnd hei hun,hcnt]
   refine hab.le fun t=>.inl ?_
   exact(next t).symm
  ·
   rename_i hi
   have hnm:=zJq hi
   have hlow:lowC l es j<=cntC es f:=by unfold lowC;exact zNr (f:=fun e=>zFO l.toArray l.length j e) fun k _ hk=>hreach k hk
   have hup:cntC es f<=upC l es j:=by
    unfold upC
    refine zNr (f:=f) (g:=fun e=>!zFO l.toArray l.length e j) fun e he hfe=>?_
    cases hr:zFO l.toArray l.length e j with
    |false=>rfl
    |true =>
     exfalso
     have hel:e<ss.length:=by have:=qAX.1 hes e he;simpa using this
     have hox:l[e]?=some (l[e]'(by omega)):=qAB (by omega)
     have:=zCe hcl' l.length e _ (by simp[hox]) (fun ed he hbn=>hcl e _ hox hfe ed he hbn) hr
     rw[hun]at this;cases this
   have hlen:cntC es f<ηs.length:=by
    have:cntC es f<=es.length:=qA6 _ _
    omega
   have hη2:ηs[cntC es f]?=some (ηs.getD (cntC es f) []):=by
    rw[qAE,qAB hlen];rfl
   have hy:Ylds C.P (ηs.getD (cntC es f) []) (pst σ 0 l ss f) o s:=hop _ _ hlow hup hη2 _ fun x hx=>by
    cases x with
    |tmp t=>show get _ t=get _ t;rw[same t (zBh hx)]
    |_=>rfl
   obtain⟨g,h1⟩:=hI
   refine .inl ⟨by unfold Region.wanted;rw[hgd],?_⟩
   refine hy.wp hdst (fun a' w' hab=>?_) h1
   simp only[I,zO8 hnm]
   refine hab.le fun t=>.inl ?_
   exact(next t).symm
 ·refine qAw (qA6 _ _) (by simp)
 ·intro j o hj hl
  have hjl:j<l.length:=(qAA.1 hj).1
  rw[qAJ,qAI (by simpa using hjl)]at hl
  simp at hl
 ·rw[qAJ,qAI (by simpa using hi)]
  simp
 ·have hf0:∀i,i<l.length->(Array.replicate l.toArray.size false).getD i true=false:=fun i hi=>by
   rw[qAJ,qAI (by simpa using hi)];simp
  have hc0:cntC es (fun i=>(Array.replicate l.toArray.size false).getD i true)=0:=by
   unfold cntC
   rw[List.filter_eq_nil_iff.2 fun e he=>by rw[hf0 e (by have:=qAX.1 hes e he;simp at this;omega)];simp];rfl
  simp only[I,hc0]
  obtain⟨g,hd0⟩:=hd0
  rw[h0]
  refine⟨g,{ hd0 with rep:=fun t=>?_ }⟩
  rw[zCN t l ss σ σ 0 _ (fun _=>false) rfl (fun i o hi hne=>?_),zDP]
  ·exact hd0.rep t
  ·rw[qAU,hf0 i (qAA.1 hi).1]at hne
   exact absurd rfl hne
section
variable {C:Ctx}{l r:List Oper}{es:List Nat}{ηs:List (List Ob)}{j:Nat}{s:SV}{ss:List SV}{σ:Sl}
theorem zLF: segS C l es ηs j r [] σ:=by cases r <;> trivial
theorem zVi{o:Oper}(hi:idxC es j=none)(hg:o.guard=none)(hd:zDz C.N o.dst)(h:YAll C σ o s ((ηs.take (upC l es j+1)).drop (lowC l es j)))(hr:segS C l es ηs (j+1) r ss (put σ o.dst s)): segS C l es ηs j (o::r) (s::ss) σ:=by
 refine⟨⟨hg,hd,?_⟩,hr⟩
 unfold zL5;rw[hi];exact h
theorem zS4{o:Oper}: ∀{L:List (List Ob)},(∀η,Ylds C.P η σ o s)->YAll C σ o s L
 |[],_=>trivial
 |η::_,h=>⟨h η,zS4 h⟩
theorem zED{o:Oper}(hi:idxC es j=none)(hg:o.guard=none)(hd:zDz C.N o.dst)(h:∀η,Ylds C.P η σ o s)(hr:segS C l es ηs (j+1) r ss (put σ o.dst s)): segS C l es ηs j (o::r) (s::ss) σ:=zVi hi hg hd (zS4 h) hr
theorem zIK{o:Oper}(lo up:Nat)(hi:idxC es j=none)(hg:o.guard=none)(hd:zDz C.N o.dst)(hlo:Nat.beq (lowC l es j) lo=true)(hup:Nat.beq (upC l es j) up=true)(h:YAll C σ o s ((ηs.take (up+1)).drop lo))(hr:segS C l es ηs (j+1) r ss (put σ o.dst s)): segS C l es ηs j (o::r) (s::ss) σ :=
 zVi hi hg hd (by rw[qAf hlo,qAf hup];exact h) hr
theorem zKd{t x y ty pos after}{id o n:Nat}{kb:Option Nat}{et:Option TypeId}{b0:Bool}{cs vs:List SV}{s0:SV}{ηi:List Ob}(i:Nat)(hi:idxC es j=some i)(hx:oval σ x=.ptr id o)(hy:oval σ y=s0)(hv:zGT s0=some vs)(ht:zBL C.P t=some (b0,n))(hηi:ηs.getD i []=ηi)(ho:ηi[id]?=some (.bx kb et cs))(hn:Nat.beq vs.length n=true)(hl:Nat.ble (o+n) cs.length=true)(hro:Nat.ble C.ro id=true)
  (hη:ηs.getD (i+1) []=ηi.set id (.bx kb et (cs.take o++vs++cs.drop (o+n)))) (hr:segS C l es ηs (j+1) r ss σ):segS C l es ηs j (⟨none,.store t x y,ty,pos,after,none⟩::r) (s::ss) σ:=by
 refine⟨⟨rfl,trivial,?_⟩,hr⟩
 unfold zL5;rw[hi]
 intro τ hτ
 have ex:∀z:Operand,z∈(Op.store t x y).operands->oval τ z=oval σ z:=fun z hz=>by
  cases z with
  |tmp u=>exact hτ u (zBh hz)
  |_=>rfl
 rw[hηi,hη]
 refine EStep.of (ops:=l.toArray) (zAj (by rw[ex x (by simp[Op.operands])];exact hx) (by rw[ex y (by simp[Op.operands])];exact hy) hv ht ho hn hl hro (zAD ⟨rfl,rfl⟩))
end
structure Rn where
 d:Nat
 e:TypeId
 n:Nat
 cap:Nat
 zd:D
def Rn.cs(p:Rn): List SV:=List.replicate p.cap (.d p.zd)
def Rn.v(p:Rn)(b:Nat): Value:=.slice (some ⟨b,0,none⟩) p.n p.cap
inductive SegR where
 |y (s:SV)
 |mk (p:Rn)
def SegR.sv: SegR->SV
 | .y s=>s
 | .mk _=>.top
def MkOk(P:Program)(o:Oper)(σ:Sl)(p:Rn): Prop :=
 ∃t x y k k' by',o.op=.makeSlice t x y/\oval σ x=.d (.val (.int k (p.n:Int)))/\oval σ y=.d (.val (.int k' (p.cap:Int)))/\p.n<=p.cap/\zBd P t=some p.e/\zA2 P t=some 1/\zIk P p.e=some p.zd/\p.zd.flat=[p.zd]/\zCZ P t=some by'/\p.cap*by'<=281474976710656/\p.cap<=281474976710656
def zPh(C:Ctx)(l:List Oper)(η:List Ob): Nat->List Oper->List SegR->Sl->Prop
 |j,o::r,.y s::ks,σ=>((Wants l.toArray σ o.guard true/\Ylds C.P η σ o s)/\zDz C.N o.dst)/\zPh C l η (j+1) r ks (put σ o.dst s)
 |j,o::r,.mk p::ks,σ=>((MkOk C.P o σ p/\o.guard=none/\o.dst=some p.d/\once l j p.d=true)/\zDz C.N o.dst)/\zPh C l η (j+1) r ks (put σ o.dst .top)
 |_,_,[],_=>True
 |_,[],_::_,_=>False
def pnR: List SegR->List Rn
 |[]=>[]
 | .mk p::r=>p::pnR r
 |_::r=>pnR r
def zPf: List Oper->List SegR->Sl->Sl
 |o::r,k::ks,σ=>zPf r ks (put σ o.dst k.sv)
 |_,_,σ=>σ
def adσR: List Rn->List Nat->Sl->Sl
 |p::r,b::bs,σ=>adσR r bs ((p.d,.d (.val (p.v b)))::σ)
 |_,_,σ=>σ
def adηR: List Rn->List Nat->List Ob
 |p::r,b::bs=>.bx (some b) (some p.e) p.cs::adηR r bs
 |_,_=>[]
def FreshR(C:Ctx)(g:Gh)(w:World)(v:Value)(p:Rn): Prop:=∃b,v=p.v b/\Fresh C g w (.pointer (some ⟨b,0,none⟩)) p.cs p.e
theorem FreshR.grow{C:Ctx}{g g':Gh}{w w':World}{v:Value}{p:Rn}(hst:∀b o,g.St b o->b<w.heap.size)(h:FreshR C g w v p)(k:Grow g w g' w'): FreshR C g' w' v p:=by
 obtain⟨b,h1,h2⟩:=h
 exact⟨b,h1,h2.grow hst k⟩
theorem zJW{C:Ctx}{l:List Oper}{η:List Ob}: ∀(r:List Oper) (ks:List SegR) (j:Nat) (σ:Sl),zPh C l η j r ks σ->ks.length<=r.length
 |_,[],_,_,_=>qAV _
 |[],.y _::_,_,_,h=>h.elim
 |[],.mk _::_,_,_,h=>h.elim
 |_::r,.y _::ks,_,_,h=>Nat.succ_le_succ (zJW r ks _ _ h.2)
 |_::r,.mk _::ks,_,_,h=>Nat.succ_le_succ (zJW r ks _ _ h.2)
theorem MkOk.congr{P:Program}{o:Oper}{σ σ':Sl}{p:Rn}(e:∀x∈o.op.operands,oval σ' x=oval σ x)(h:MkOk P o σ p): MkOk P o σ' p:=by
 obtain⟨t,x,y,k,k',by',h1,h2,h3,h4⟩:=h
 exact⟨t,x,y,k,k',by',h1,(e x (by rw[h1];simp[Op.operands])).trans h2,(e y (by rw[h1];simp[Op.operands])).trans h3,h4⟩
theorem zOL{C:Ctx}{l:List Oper}{η:List Ob}: ∀(r:List Oper) (ks:List SegR) (j:Nat) (σ:Sl),zPh C l η j r ks σ->∀(i:Nat) o k,r[i]?=some o->ks[i]?=some k->zDz C.N o.dst/\
  (match k with
  | .y s=>Wants l.toArray (pst σ j r (ks.map SegR.sv) (fun m=>decide (m<j+i))) o.guard true/\Ylds C.P η (pst σ j r (ks.map SegR.sv) (fun m=>decide (m<j+i))) o s
  | .mk p=>MkOk C.P o (pst σ j r (ks.map SegR.sv) (fun m=>decide (m<j+i))) p/\o.guard=none/\o.dst=some p.d/\once l (j+i) p.d=true)
 |_,[],_,_,_,i,o,k,_,hk=>by simp at hk
 |[],_::_,_,_,_,i,o,k,ho,_=>by simp at ho
 |o::r,k::ks,j,σ,h,0,o',k',ho,hk=>by
  simp at ho hk;subst ho;subst hk
  have e0:∀t,get (pst σ j (o::r) ((k::ks).map SegR.sv) (fun m=>decide (m<j+0))) t=get σ t:=by
   intro t
   have:=zCN t (o::r) ((k::ks).map SegR.sv) σ σ j (fun m=>decide (m<j+0)) (fun _=>false) rfl (fun i o' hi hne=>by simp at hne)
   rw[this,zDP]
  cases k with
  |y s =>
   obtain⟨⟨⟨h1,h2⟩,h3⟩,_⟩:=h
   exact⟨h3,h1.congr e0,h2.congr fun x _=>zCx e0 x⟩
  |mk p =>
   obtain⟨⟨⟨h1,h2,h3,h4⟩,h5⟩,_⟩:=h
   exact⟨h5,h1.congr fun x _=>zCx e0 x,h2,h3,h4⟩
 |o::r,k::ks,j,σ,h,i+1,o',k',ho,hk=>by
  have hr:zPh C l η (j+1) r ks (put σ o.dst k.sv):=by cases k <;> exact h.2
  have:=zOL r ks (j+1) _ hr i o' k' (by simpa using ho) (by simpa using hk)
  have hj:j+(i+1)=j+1+i:=by omega
  have hd:decide (j<j+1+i)=true:=by simp;omega
  simp only[qAs,pst,hj,hd]
  exact this
theorem zL3: ∀(r:List Oper) (ks:List SegR) (j:Nat) (σ:Sl) (f:Nat->Bool),(∀i,i<ks.length->f (j+i)=true)->pst σ j r (ks.map SegR.sv) f=zPf r ks σ
 |_,[],_,_,_,_=>by simp[pst,zPf]
 |[],_::_,_,_,_,_=>by simp[pst,zPf]
 |o::r,k::ks,j,σ,f,h=>by
  have h0:=h 0 (by simp)
  rw[qA2]at h0
  simp only[qAs,pst,h0,zPf]
  exact zL3 r ks (j+1) _ f fun i hi=>by have:=h (i+1) (by simpa using hi);rw[show j+1+i=j+(i+1) by omega];exact this
theorem zLM: ∀{ks:List SegR} {p:Rn},p∈pnR ks->∃j:Nat,ks[j]?=some (.mk p)
 |[],_,h=>by simp[pnR]at h
 | .y _::ks,p,h=>by obtain⟨j,hj⟩:=zLM (ks:=ks) h;exact⟨j+1,by simpa using hj⟩
 | .mk q::ks,p,h=>by
  rcases qBE.1 h with h|h
  ·exact⟨0,by rw[h];rfl⟩
  ·obtain⟨j,hj⟩:=zLM (ks:=ks) h;exact⟨j+1,by simpa using hj⟩
theorem zLL{R:Rn->Rn->Prop}: ∀(ks:List SegR),(∀(i j:Nat) p q,ks[i]?=some (.mk p)->ks[j]?=some (.mk q)->i≠j->R p q)->(pnR ks).Pairwise R
 |[],_=>List.Pairwise.nil
 | .y _::ks,h=>zLL ks fun i j p q hi hj hne=>h (i+1) (j+1) p q (by simpa using hi) (by simpa using hj) (by omega)
 | .mk p::ks,h=>List.Pairwise.cons (fun q hq=>by
   obtain⟨j,hj⟩:=zLM hq
   exact h 0 (j+1) p q rfl (by simpa using hj) (by omega)) (zLL ks fun i j p q hi hj hne=>h (i+1) (j+1) p q (by simpa using hi) (by simpa using hj) (by omega))
theorem AbsG.adoptR{C:Ctx}{g:Gh}{σ:Sl}{η:List Ob}{a:Act}{w:World}(h:AbsG C g σ η a w){p:Rn}{b:Nat}(hv:a.tmps.getD p.d undef=p.v b)(hf:Fresh C g w (.pointer (some ⟨b,0,none⟩)) p.cs p.e):
  ∃g',AbsG C g' ((p.d,.d (.val (p.v b)))::σ) (η++[.bx (some b) (some p.e) p.cs]) a w/\g'.St=g.St/\(∀id c,g'.blk id=some c->g.blk id=some c\/c=b)/\∀{v:Value} {s:SV},RepS g w v s->RepS g' w v s:=by
 obtain⟨b',us,f1,f2,z1,z2,z3,f3,f4,f5,f6⟩:=hf
 have:b=b':=by injection f1 with f1;injection f1 with f1;injection f1
 subst this
 have hn:=h.inv.n
 let g':Gh:={ g with blk:=upd g.blk g.n (some b),n:=g.n+1 }
 have hold:∀id,id<g.n->g'.blk id=g.blk id/\g'.cap id=g.cap id/\g'.sz id=g.sz id:=fun id hid=>⟨by simp[g',upd,Nat.ne_of_lt hid],rfl,rfl⟩
 have hbn:g'.blk g.n=some b:=by simp[g',upd]
 have hb':∀id c,g'.blk id=some c->(id<g.n/\g.blk id=some c)\/(id=g.n/\c=b):=by
  intro id c hc
  rcases qBJ id g.n with hi|hi|hi
  ·rw[(hold id hi).1]at hc;exact .inl ⟨hi,hc⟩
  ·subst hi;rw[hbn]at hc;injection hc with hc;exact .inr ⟨rfl,hc.symm⟩
  ·have hne:id≠g.n:=by omega
   simp only[g',upd,if_neg hne]at hc
   rw[h.inv.dead id (by omega)]at hc;cases hc
 have kp:=Keep.refl g.St w
 have rx:∀{v:Value} {s:SV},RepS g w v s->RepS g' w v s:=fun r=>r.ext (g':=g') kp hold (Nat.le_succ _)
 refine⟨g',⟨h.defers,h.size,⟨by rw[qAD];show g.n+1=_;rw[hn];rfl,fun id c hc=>?_,fun id hid=>?_,fun i j c hi hj=>?_,fun id o ho=>?_,h.inv.st,h.inv.gl⟩,h.os,h.tape,h.output,h.wsize,h.heap,h.keep,h.new,fun id c hc hr=>?_,fun u=>?_⟩,rfl,fun id c hc=>?_,rx⟩
 ·rcases hb' id c hc with⟨_,q⟩|⟨_,rfl⟩
  ·exact h.inv.lt id c q
  ·exact f6
 ·have hid:g.n+1<=id:=hid
  have hne:id≠g.n:=by omega
  simp only[g',upd,if_neg hne];exact h.inv.dead id (by omega)
 ·rcases hb' i c hi with⟨q1,q2⟩|⟨q1,q2⟩ <;> rcases hb' j c hj with⟨q3,q4⟩|⟨q3,q4⟩
  ·exact h.inv.inj i j c q2 q4
  ·exact absurd (q4▸q2) (f4 i)
  ·exact absurd (q2▸q4) (f4 j)
  ·omega
 ·rw[List.getElem?_append]at ho
  split at ho
  ·rename_i hc
   exact(h.inv.ob id o ho).ext (g':=g') kp hold (Nat.le_succ _) (by omega) (fun _ _=>⟨rfl,fun _=>Iff.rfl⟩)
  ·rename_i hc
   have hid:id=g.n:=by
    have:=(qAA.1 ho).1
    simp at this;omega
   subst hid
   have:g.n-η.length=0:=by omega
   rw[this]at ho
   simp at ho;subst ho
   exact⟨b,p.e,us,hbn,f2,z1,z2,fun j u s hu hs=>rx (z3 j u s hu hs),f3,fun _ h=>(qBB h).symm,fun _ h=>(qBB h).symm⟩
 ·rcases hb' id c hc with⟨_,q⟩|⟨_,rfl⟩
  ·exact h.own id c q hr
  ·exact .inl f5
 ·rw[zBi]
  split
  ·rename_i e;subst e
   show RepD _ _ _ _
   rw[hv];exact .val _
  ·exact rx (h.rep u)
 ·rcases hb' id c hc with⟨_,q⟩|⟨_,q⟩
  ·exact .inl q
  ·exact .inr q
theorem AbsG.adoptAllR{C:Ctx}{a:Act}{w:World}: ∀(pn:List Rn) (g:Gh) (σ:Sl) (η:List Ob),AbsG C g σ η a w->(∀p∈pn,FreshR C g w (a.tmps.getD p.d undef) p)->
  (pn.Pairwise fun p q=>∀b c,a.tmps.getD p.d undef=p.v b->a.tmps.getD q.d undef=q.v c->b≠c)->∃bs:List Nat,bs.length=pn.length/\Abs C (adσR pn bs σ) (η++adηR pn bs) a w
 |[],g,σ,η,h,_,_=>⟨[],rfl,g,by simpa[adσR,adηR]using h⟩
 |p::r,g,σ,η,h,hf,hp=>by
  obtain⟨hp1,hp2⟩:=List.pairwise_cons.1 hp
  obtain⟨b,hv,hfr⟩:=hf p (by simp)
  obtain⟨g',h1,h2,h3,h4⟩:=h.adoptR hv hfr
  have hrest:∀q∈r,FreshR C g' w (a.tmps.getD q.d undef) q:=fun q hq=>by
   obtain⟨c,hc,b',us,f1,f2,z1,z2,z3,f3,f4,f5,f6⟩:=hf q (by simp[hq])
   refine⟨c,hc,b',us,f1,f2,z1,z2,fun j u s hu hs=>h4 (z3 j u s hu hs),by rw[h2];exact f3,fun id hid=>?_,f5,f6⟩
   have hcb:c=b':=by injection f1 with f1;injection f1 with f1;injection f1
   rcases h3 id b' hid with h5|h5
   ·exact f4 id h5
   ·exact hp1 q hq b c hv hc (by rw[hcb,h5])
  obtain⟨bs,e1,e2⟩:=AbsG.adoptAllR r g' _ _ h1 hrest hp2
  refine⟨b::bs,by simp[e1],?_⟩
  simpa[adσR,adηR,List.append_assoc]using e2
theorem zPV{P:Program}{t e:TypeId}{zd:D}(he:zBd P t=some e)(hs:zA2 P t=some 1)(hz:zIk P e=some zd)(hzl:zd.flat=[zd])(m:Nat):
  ∃i z,P.underlying t=some (.slice e)/\P.info? e=some i/\i.zero=some z/\i.size=1/\(madeCells z.cells (m*i.size)).size=m/\(∀u∈madeCells z.cells (m*i.size),u.oneCell'=true)/\
   ∀(g:Gh) (w:World) (j:Nat) (u:Value) (s:SV),(madeCells z.cells (m*i.size))[j]?=some u->(List.replicate m (SV.d zd))[j]?=some s->RepS g w u s:=by
 obtain⟨e',i,hu,hi,hsz⟩:=zBH hs
 have:e'=e:=by have:=zBx he;rw[hu]at this;injection this with this;injection this
 subst this
 obtain⟨z,hzz,hzs,hz1,hzr⟩:=zGp hi hz
 rw[hzl]at hzs
 have hg0:∀(j:Nat) (u:Value),(madeCells z.cells (m*i.size))[j]?=some u->j<m/\z.cells[0]?=some u:=by
  intro j u hu
  unfold madeCells at hu
  rw[hsz]at hu
  obtain⟨hj,hu⟩:=qAr.1 hu
  simp at hj
  simp only[Array.getElem_map,Array.getElem_range]at hu
  have hm:0<z.cells.size:=by rw[hzs];exact Nat.one_pos
  have h0:j%z.cells.size=0:=by rw[hzs];exact Nat.mod_one j
  refine⟨by omega,?_⟩
  rw[h0,getElem!_pos z.cells 0 hm]at hu
  rw[qAI hm,hu]
 refine⟨i,z,hu,hi,hzz,hsz,by rw[size_madeCells,hsz,Nat.mul_one],fun u hu=>?_,fun g w j u s hu hs=>?_⟩
 ·obtain⟨j,hj⟩:=Array.getElem?_of_mem hu;exact hz1 u (qA7 (hg0 j u hj).2)
 ·obtain⟨h1,h2⟩:=hg0 j u hu
  rw[List.getElem?_replicate,if_pos h1]at hs
  injection hs with hs
  subst hs
  exact hzr g.St w 0 u zd h2 (by rw[hzl];rfl)
theorem MkOk.run{C:Ctx}{g:Gh}{σ:Sl}{η:List Ob}{a:Act}{w:World}{o:Oper}{p:Rn}(h:AbsG C g σ η a w)(hm:MkOk C.P o σ p):
  ∃us,(execOp a.eval o).run C.P w=.ok (.value (p.v w.heap.size)) (w.alloc (.cells us p.e))/\us.size=p.cs.length/\(∀u∈us,u.oneCell'=true)/\∀(g:Gh) (w:World) (j:Nat) (u:Value) (s:SV),us[j]?=some u->p.cs[j]?=some s->RepS g w u s:=by
 obtain⟨t,x,y,k,k',by',h1,h2,h3,h4,h5,h6,h7,h8,h9,h10,h11⟩:=hm
 obtain⟨i,z,hu,hi,hzz,hsz,m1,m2,m3⟩:=zPV h5 h6 h7 h8 p.cap
 have hby:i.bytes=by':=by
  obtain⟨e2,i2,q1,q2,q3⟩:=zDE h9
  rw[hu]at q1;injection q1 with q1;injection q1 with q1;subst q1
  rw[hi]at q2;injection q2 with q2;subst q2;exact q3
 have hxr:=h.eval x;rw[h2]at hxr
 have hyr:=h.eval y;rw[h3]at hyr
 have hrun:=run_make (P:=C.P) w t p.e i z hu hi hzz k k' p.n p.cap (by omega) (by omega) (by rw[hby,Int.mul_comm,<-Int.natCast_mul];exact Int.ofNat_le.2 h10) (by omega)
 simp only[qAj]at hrun
 refine⟨_,?_,by rw[m1,Rn.cs,qAm],m2,m3⟩
 simp only[execOp,h1,Sem.run_bind,RepD.val_eq hxr,RepD.val_eq hyr,hrun];rfl
theorem zSk{C:Ctx}{Q:Exit->Sl->List Ob->Prop}{σ:Sl}{η:List Ob}{id:Nat}{l:List Oper}(ks:List SegR)(hm:C.P.follows .mixedOrders=true)(hB:zFK l=true)
  (hbar:ks.length=l.length\/zHB l.toArray (l.length-ks.length-1)=true) (hs:zPh C l η 0 l ks σ)
  (h:∀bs:List Nat,bs.length=(pnR ks).length->alex C true l.toArray (l.drop ks.length) (Q .normal) (adσR (pnR ks) bs (zPf l ks σ)) (η++adηR (pnR ks) bs)):awp C (.region id l.toArray true) Q σ η:=by
 intro R hR a w ⟨g,hg⟩
 have hd:Abs C σ η a { w with drawn:=w.drawn+1 }:=⟨g,hg.grow ⟨rfl,rfl,rfl,rfl,rfl,rfl,rfl,qAN _,fun _ _=>rfl,fun _ _ h=>h,fun _ _ h=>.inl h,hg.inv.st⟩⟩
 have hkl:=zJW l ks 0 σ hs
 have hat:=zOL l ks 0 σ hs
 let I:(Nat->Bool)->Act->World->Prop:=fun f a w=>∃g,AbsG C g (pst σ 0 l (ks.map SegR.sv) f) η a w/\(∀(j:Nat) p,ks[j]?=some (.mk p)->f j=true->FreshR C g w (a.tmps.getD p.d undef) p)/\
  (∀(i j:Nat) p q,ks[i]?=some (.mk p)->ks[j]?=some (.mk q)->i≠j->f i=true->f j=true->∀b c,a.tmps.getD p.d undef=p.v b->a.tmps.getD q.d undef=q.v c->b≠c)
 have hlk:∀{j:Nat} {k:SegR},ks[j]?=some k->∃o,l[j]?=some o:=fun hk=>⟨_,qAB (qAW (qAA.1 hk).1 hkl)⟩
 refine wp_region_any hm (zKY (C:=C) (K:=Q .normal) (fun σ' η' a w hk hab=>hR _ _ _ _ _ hk hab) hB ks.length hkl hbar I ?_ ?_ _ _ a _ (by simp) ?_ ?_ (fun i _ hi=>?_) ?_)
 ·intro f a w hf ⟨g,h1,h2,h3⟩
  rw[zL3 l ks 0 σ f (fun i hi=>by rw[qAU];exact hf i hi)]at h1
  obtain⟨bs,e1,e2⟩:=h1.adoptAllR _ _ _ _ (fun p hp=>by
   obtain⟨j,hj⟩:=zLM hp
   exact h2 j p hj (hf j (qAA.1 hj).1)) (zLL ks fun i j p q hi hj hne=>h3 i j p q hi hj hne (hf i (qAA.1 hi).1) (hf j (qAA.1 hj).1))
  exact⟨_,_,h bs e1,e2⟩
 ·intro f j o a w hjm hlj hun hcl hdep ⟨g,h1,h2,h3⟩
  obtain⟨k,hk⟩:∃k,ks[j]?=some k:=⟨_,qAB hjm⟩
  have hkk:=hat j o k hlj hk
  rw[qAU]at hkk
  have same:=zGx (σ:=σ) (ss:=ks.map SegR.sv) hB hlj hun hcl hdep
  have hsk:(ks.map SegR.sv)[j]?=some k.sv:=by rw[qAL,hk];rfl
  have next:=zGy (σ:=σ) hB hlj hsk hun hcl
  have stay:∀(i:Nat) p v,ks[i]?=some (.mk p)->i≠j->(a.put o.dst v).tmps.getD p.d undef=a.tmps.getD p.d undef:=by
   intro i p v hi hne
   obtain⟨o',hli⟩:=hlk hi
   have hon:=(hat i _ _ hli hi).2.2.2.2
   rw[qAU]at hon
   have hne2:=zJi hon hlj (fun e=>hne e.symm)
   cases hod:o.dst with
   |none=>rfl
   |some e =>
    have:e≠p.d:=fun h=>hne2 (by rw[hod,h])
    simp[Act.put,Array.getD_eq_getD_getElem?,Array.getElem?_setIfInBounds_ne this]
  have hmk:∀i,(i==j||f i)=true->i≠j->f i=true:=fun i h hne=>by
   have:(i==j)=false:=by simpa using hne
   simpa[this]using h
  cases k with
  |y s =>
   left
   obtain⟨hdst,hw,hy⟩:=hkk
   refine⟨hw.wanted (g:=g) (w:=w) fun t q b hgd ht=>by rw[<-same t (zET hgd ht)];exact h1.rep t,?_⟩
   have hy':Ylds C.P η (pst σ 0 l (ks.map SegR.sv) f) o s:=hy.congr fun x hx=>by
    cases x with
    |tmp t=>exact same t (zBh hx)
    |_=>rfl
   have fin:∀v g' w',Grow g w g' w'->RepS g' w' v s->I (fun i=>i==j||f i) (a.put o.dst v) w':=fun v g' w' hgr hr=>by
    have hab:=(h1.grow hgr).put hdst hr
    refine⟨g',hab.get_eq fun t=>.inl (next t).symm,fun i p hi hfi=>?_,fun i i2 p q hi hi2 hne hf1 hf2=>?_⟩
    ·have hne:i≠j:=fun e=>by subst e;rw[hk]at hi;cases hi
     rw[stay i p v hi hne]
     exact(h2 i p hi (hmk i hfi hne)).grow h1.inv.st hgr
    ·have hne1:i≠j:=fun e=>by subst e;rw[hk]at hi;cases hi
     have hne2:i2≠j:=fun e=>by subst e;rw[hk]at hi2;cases hi2
     rw[stay i p v hi hne1,stay i2 q v hi2 hne2]
     exact h3 i i2 p q hi hi2 hne (hmk i hf1 hne1) (hmk i2 hf2 hne2)
   unfold Oper.wp
   rcases hy' g w a h1.inv (fun x _=>h1.eval x)with⟨v,g',w',hr,hg,hs'⟩|⟨fn,args,hr,hc⟩
   ·rw[hr];exact fin v g' w' hg hs'
   ·rw[hr,Oper.upon_enter]
    refine hc.mono fun e w' ⟨v,g',he,hg,hs'⟩=>?_
    subst he
    exact fin v g' w' hg hs'
  |mk p =>
   left
   obtain⟨hdst,q1,q2,q3,q4⟩:=hkk
   refine⟨by unfold Region.wanted;rw[q2],?_⟩
   have q1':MkOk C.P o (pst σ 0 l (ks.map SegR.sv) f) p:=q1.congr fun x hx=>by
    cases x with
    |tmp t=>exact same t (zBh hx)
    |_=>rfl
   obtain⟨us,hrun,u1,u2,u3⟩:=q1'.run h1
   have hgr:Grow g w g (w.alloc (.cells us p.e)):=⟨rfl,rfl,rfl,rfl,rfl,rfl,rfl,by simp,fun k hk=>Below.heap_alloc w _ k hk,fun _ _ h=>h,fun _ _ h=>.inl h,fun b o hb=>qAW (h1.inv.st b o hb) (by simp)⟩
   unfold Oper.wp
   rw[hrun]
   have hab:=(h1.grow hgr).put (d:=o.dst) (v:=p.v w.heap.size) (s:=.top) hdst trivial
   have hnew:(a.put o.dst (p.v w.heap.size)).tmps.getD p.d undef=p.v w.heap.size:=by
    rw[q3]
    have hlt:p.d<a.tmps.size:=by rw[q3]at hdst;rw[h1.size];simpa[zDz,Nat.blt_eq]using hdst
    simp[Act.put,hlt]
   have hold:∀(i:Nat) q,ks[i]?=some (.mk q)->f i=true->∀c,a.tmps.getD q.d undef=q.v c->c<w.heap.size:=fun i q hi hfi c hc=>by
    obtain⟨c',e1,b,us,f1,_,_,_,_,_,_,_,f6⟩:=h2 i q hi hfi
    have:c=c':=by rw[hc]at e1;simp only[Rn.v]at e1;injection e1 with e1;injection e1 with e1;injection e1
    have:c'=b:=by injection f1 with f1;injection f1 with f1;injection f1
    omega
   have vinj:∀{q:Rn} {b c:Nat},q.v b=q.v c->b=c:=fun e1=>by simp only[Rn.v]at e1;injection e1 with e1;injection e1 with e1;injection e1
   refine⟨g,hab.get_eq fun t=>.inl (next t).symm,fun i q hi hfi=>?_,fun i i2 q q' hi hi2 hne hf1 hf2 b c hb hc=>?_⟩
   ·by_cases hij:i=j
    ·subst hij
     rw[hk]at hi;injection hi with hi;injection hi with hi;subst hi
     rw[hnew]
     exact⟨w.heap.size,rfl,w.heap.size,us,rfl,_root_.Go.heap_alloc_new w _,u1,u2,fun jj u s hu hs=>u3 _ _ jj u s hu hs,fun o ho=>absurd (h1.inv.st _ o ho) (by omega),fun id hid=>absurd (h1.inv.lt id _ hid) (by omega),h1.wsize,by simp⟩
    ·rw[stay i q _ hi hij]
     exact(h2 i q hi (hmk i hfi hij)).grow h1.inv.st hgr
   ·by_cases hij:i=j
    ·have hij2:i2≠j:=fun e=>hne (hij.trans e.symm)
     subst hij
     rw[hk]at hi;injection hi with hi;injection hi with hi;subst hi
     rw[hnew]at hb
     rw[stay i2 q' _ hi2 hij2]at hc
     have h5:=hold i2 q' hi2 (hmk i2 hf2 hij2) c hc
     have h6:=vinj hb
     omega
    ·by_cases hij2:i2=j
     ·subst hij2
      rw[hk]at hi2;injection hi2 with hi2;injection hi2 with hi2;subst hi2
      rw[hnew]at hc
      rw[stay i q _ hi hij]at hb
      have h5:=hold i q hi (hmk i hf1 hij) b hb
      have h6:=vinj hc
      omega
     ·rw[stay i q _ hi hij]at hb
      rw[stay i2 q' _ hi2 hij2]at hc
      exact h3 i i2 q q' hi hi2 hne (hmk i hf1 hij) (hmk i2 hf2 hij2) b c hb hc
 ·refine qAw (qA6 _ _) (by simp)
 ·intro j o hj hl
  have hjl:j<l.length:=(qAA.1 hj).1
  rw[qAJ,qAI (by simpa using hjl)]at hl
  simp at hl
 ·rw[qAJ,qAI (by simpa using hi)]
  simp
 ·obtain⟨g',hg'⟩:=hd
  have hf0:∀i,i<l.length->(Array.replicate l.toArray.size false).getD i true=false:=fun i hi=>by
   rw[qAJ,qAI (by simpa using hi)];simp
  refine⟨g',hg'.get_eq fun t=>.inl ?_,fun j p hj hf=>?_,fun i j p q hi _ _ hf _=>?_⟩
  ·rw[zCN t l (ks.map SegR.sv) σ σ 0 _ (fun _=>false) rfl (fun i o hi hne=>?_),zDP]
   rw[qAU,hf0 i (qAA.1 hi).1]at hne
   exact absurd rfl hne
  ·have:=hf0 j (by have:=(qAA.1 hj).1;omega)
   simp only[this]at hf;cases hf
  ·have:=hf0 i (by have:=(qAA.1 hi).1;omega)
   simp only[this]at hf;cases hf
theorem Abs.cellrow{C:Ctx}{σ:Sl}{η:List Ob}{a:Act}{w:World}(id q j n cap b:Nat){e:TypeId}{cs:List SV}{xs:List D}{kq:Option Nat}{eq:Option TypeId}{cq:List SV}(ho:η[id]?=some (.bx (some b) (some e) cs))(hq:η[q]?=some (.bx kq eq cq))(hne:Nat.beq q id=false)(hc:cq[j]?=some (.d (.val (.slice (some ⟨b,0,none⟩) n cap))))
  (hl:cs.length=cap) (hx:xs.map SV.d=cs.take xs.length) (hxl:xs.length<=cap) (hm:cap<=maxLen) (hf:∀d∈xs,d.flat=[d]) (h:Abs C σ η a w) :
  Abs C (zFP id σ) (((zFI id η).set id (.buf true e 1 xs)).set q (.bx kq eq ((cq.map (SV.kill id)).set j (.buf id n)))) a w:=by
 obtain⟨g,ha⟩:=h
 have hqi:q≠id:=fun c=>by rw[c]at hne;simp at hne
 have hidl:id<η.length:=(qAA.1 ho).1
 have hql:q<η.length:=(qAA.1 hq).1
 obtain⟨b',e',us,o1,o2,o3,o4,o5,o6,o7,o8⟩:=ha.inv.ob id _ ho
 have he:e=e':=o8 e rfl
 subst he
 have hbb:b=b':=o7 b rfl
 subst hbb
 let g':Gh:={ g with cap:=upd g.cap id cap,sz:=upd g.sz id 1 }
 have rk:∀{v:Value} {s:SV},RepS g w v s->RepS g' w v (s.kill id):=fun r=>RepS.other (g:=g) (g':=g') (id:=id) (Keep.refl g.St w) (fun i hi=>⟨rfl,by simp[g',upd,hi],by simp[g',upd,hi]⟩) rfl r
 have hflat:zCH xs=xs:=by
  have:∀l:List D,(∀d∈l,d.flat=[d])->zCH l=l:=fun l=>by
   induction l with
   |nil=>intro _;rfl
   |cons d r ih=>intro h;show d.flat++zCH r=_;rw[h d (by simp),ih fun x hx=>h x (qAk _ hx)];rfl
  exact this xs hf
 refine⟨g',ha.defers,ha.size,⟨by rw[qAa,qAa,zDX];exact ha.inv.n,ha.inv.lt,ha.inv.dead,ha.inv.inj,fun i ob hi=>?_,ha.inv.st,ha.inv.gl⟩,ha.os,ha.tape,ha.output,ha.wsize,ha.heap,ha.keep,ha.new,ha.own,fun t=>by rw[zFX];exact rk (ha.rep t)⟩
 have box:∀{k:Option Nat} {et:Option TypeId} {cs:List SV} {i:Nat},ObOk g w i (.bx k et cs)->ObOk g' w i (.bx k et (cs.map (SV.kill id))):=by
  intro k et cs i hob
  obtain⟨b,e,us,h1,h2,h3,h4,h5,h6,h7⟩:=hob
  refine⟨b,e,us,h1,h2,by rw[qAC];exact h3,h4,fun j u s hu hs=>?_,h6,h7⟩
  rw[qAL]at hs
  cases hcs:cs[j]? with
  |none=>rw[hcs]at hs;cases hs
  |some s0 =>
   rw[hcs]at hs;injection hs with hs;subst hs
   exact rk (h5 j u s0 hu hcs)
 rw[qAT]at hi
 split at hi
 ·rename_i hcq;subst hcq
  rw[if_pos (by rw[qAa,zDX];exact hql)]at hi
  injection hi with hi;subst hi
  obtain⟨b2,e2,us2,h1,h2,h3,h4,h5,h6,h7⟩:=ha.inv.ob q _ hq
  refine⟨b2,e2,us2,h1,h2,by rw[qAa,qAC];exact h3,h4,fun jj u s hu hs=>?_,h6,h7⟩
  rw[qAT,qAC]at hs
  split at hs
  ·rename_i hjj;subst hjj
   have hjl:j<cq.length:=(qAA.1 hc).1
   rw[if_pos hjl]at hs
   injection hs with hs;subst hs
   have hr:=h5 j u _ hu hc
   have hu2:u=.slice (some ⟨b,0,none⟩) n cap:=RepD.val_eq hr
   refine⟨by show id<g.n;rw[ha.inv.n];exact hidl,?_⟩
   rw[hu2]
   simp[g',upd,o1]
  ·rw[qAL]at hs
   cases hcs:cq[jj]? with
   |none=>rw[hcs]at hs;cases hs
   |some s0 =>
    rw[hcs]at hs;injection hs with hs;subst hs
    exact rk (h5 jj u s0 hu hcs)
 ·rw[qAT]at hi
  split at hi
  ·rename_i hc;subst hc
   rw[if_pos (by rw[zDX];exact hidl)]at hi
   injection hi with hi;subst hi
   refine⟨by simp[g',upd],fun d hd=>by rw[hf d hd];rfl,by simp only[g',upd,if_true];exact hm,by simp only[g',upd,if_true];exact hxl,.inr ⟨b,us,o1,o2,by simp only[g',upd,if_true];omega,fun j u hj hu=>o4 u (qA7 hu),fun j u d hu hd=>?_,fun o=>⟨fun h=>absurd h (o6 o),fun h=>by cases h.1⟩⟩⟩
   rw[hflat]at hd
   refine o5 j u (.d d) hu ?_
   have hjl:=(qAA.1 hd).1
   have:(xs.map SV.d)[j]?=some (.d d):=by rw[qAL,hd];rfl
   rw[hx,qAR,if_pos hjl]at this
   exact this
  ·rename_i hc
   rw[zGb]at hi
   cases hη:η[i]? with
   |none=>rw[hη]at hi;cases hi
   |some o0 =>
    rw[hη]at hi
    injection hi with hi
    subst hi
    have hob:=ha.inv.ob i _ hη
    cases o0 with
    |bx k et cs=>exact box hob
    |buf mu e sz xs =>
     have hne:¬i=id:=fun c=>hc c.symm
     obtain⟨h1,h2,h3,h4,h5⟩:=hob
     exact⟨by simp only[g',upd,if_neg hne];exact h1,h2,by simp only[g',upd,if_neg hne];exact h3,by simp only[g',upd,if_neg hne];exact h4,by simp only[g',upd,if_neg hne];exact h5⟩
    |iter s pos=>exact hob
    |mapq q k l=>exact hob
    |miter m since seen st =>
     simp only[Ob.kill]
     split
     ·trivial
     ·exact hob
    |gone=>trivial
theorem zHa{C:Ctx}{σ:Sl}{η:List Ob}{Q:Exit->Sl->List Ob->Prop}{c:Code}(id q j n cap b:Nat){e:TypeId}{cs:List SV}{xs:List D}{kq:Option Nat}{eq:Option TypeId}{cq:List SV}(ho:η[id]?=some (.bx (some b) (some e) cs))(hq:η[q]?=some (.bx kq eq cq))(hne:Nat.beq q id=false)(hc:cq[j]?=some (.d (.val (.slice (some ⟨b,0,none⟩) n cap))))
  (hl:cs.length=cap) (hx:xs.map SV.d=cs.take xs.length) (hxl:xs.length<=cap) (hm:cap<=maxLen) (hf:∀d∈xs,d.flat=[d])
  (h:awp C c Q (zFP id σ) (((zFI id η).set id (.buf true e 1 xs)).set q (.bx kq eq ((cq.map (SV.kill id)).set j (.buf id n))))):awp C c Q σ η:=by
 intro R hR a w hab
 exact h R hR a w (hab.cellrow id q j n cap b ho hq hne hc hl hx hxl hm hf)
section
variable {P:Program}{η:List Ob}{σ:Sl}{dst:Option Nat}{ty:TypeId}{pos:String}{after:Array Edge}{gd:Option (Nat×Bool)}{x:Operand}
theorem zSz{id n:Nat}(h:oval σ x=.buf id n): Ylds P η σ ⟨dst,.move x,ty,pos,after,gd⟩ (.bsl id 0 n):=by
 refine Ylds.same fun g w a hi hr=>?_
 have h1:=hr x (by simp[Op.operands])
 rw[h]at h1
 exact⟨_,by simp only[execOp,Sem.run_pure],h1.bsl0⟩
end
open Go.Lib
section
variable {P:Program}{η:List Ob}{σ:Sl}{dst:Option Nat}{ty:TypeId}{pos:String}{after:Array Edge}{gd:Option (Nat×Bool)}{t yt:TypeId}{x y z:Operand}
theorem zbF{e src tdst:TypeId}{l:List UInt8}(hc:Co η (oval σ x) (.slice (bys l)))(hs:P.underlying src=some (.slice e))(he:P.underlying e=some (.int .u8))(hd:P.underlying tdst=some .string):
  Ylds P η σ ⟨dst,.convert src tdst x,ty,pos,after,gd⟩ (.d (str l)):=by
 refine Ylds.same fun g w a hi h=>?_
 have h1:=Co.rep hi (h x (by simp[Op.operands])) hc
 generalize hv:a.eval x=v at h1
 cases h1 with
 |slice ad len cap sz _ us hlen hcap hm hsz hus h1c hcell hr =>
  rw[zJ5]at hlen hcell
  have hul:us.length=l.length:=by rw[hus,zMr,zJ5]
  cases ad with
  |none =>
   have hl:l=[]:=by
    cases l with
    |nil=>rfl
    |cons c r=>obtain⟨ad,h2,_⟩:=hcell (by simp);cases h2
   subst hl
   refine⟨_,?_,.val _⟩
   simp only[execOp,hv,Sem.run_bind,run_convert_bytes_string w src tdst e none len cap hs he hd]
   rfl
  |some ad =>
   have hc':∀(j:Nat) (u:Value),us[j]?=some u->w.cell? (ad.add j)=some u:=fun j u hj=>by
    have hjl:=(qAA.1 hj).1
    obtain⟨ad',h2,h3⟩:=hcell (by omega)
    cases h2;exact(h3 j u hj).2
   have eus:us=(l.map fun b=>(b.toNat:Int)).map (Value.int .u8):=by
    refine qBq fun j=>?_
    rcases qAQ j l.length with hj|hj
    ·have e1:us[j]?=some (us[j]'(by omega)):=qAB (by omega)
     have e2:(zCH (bys l))[j]?=some (.val (.int .u8 (l[j]).toNat)):=by rw[zMr,bys,qAL,qAB hj];rfl
     rw[e1,RepD.val_eq (hr j _ _ e1 e2),qAL,qAL,qAB hj];rfl
    ·rw[qA3 (by omega),qA3 (by simp;omega)]
   have hld:=run_loadCells_list (P:=P) w ad us hc'
   refine⟨_,?_,.val _⟩
   have hlen':len=us.length:=by rw[hlen,hul]
   simp only[execOp,hv,Sem.run_bind,run_convert_bytes_string w src tdst e (some ad) len cap hs he hd]
   rw[run_bytesToString w ad len cap (l.map fun b=>(b.toNat:Int)) (by rw[hlen',hld,eus])]
   simp only[Result.andThen_ok,Sem.run_pure,zJz]
   have:l.map ((fun n:Int=>UInt8.ofNat n.toNat) ∘ fun b:UInt8=>(b.toNat:Int))=l:=by
    conv=>rhs;rw[<-List.map_id l]
    refine qBZ fun b _=>?_
    simp
   simp[this]
end
end Go.Sx
namespace Go.Sx
theorem zKJ{e sz:Nat}(xs:List D)(n:Nat): WOb (.buf true e sz (xs.take n)) (.buf true e sz xs):=by
 intro g w id h
 obtain⟨o1,o2,o3,o4,o5⟩:=h
 have hle:(xs.take n).length<=xs.length:=by rw[qAK];omega
 have hm:(xs.take n).length*sz<=xs.length*sz:=qAe _ hle
 refine⟨o1,fun x hx=>o2 x (qAY hx),o3,by omega,?_⟩
 rcases o5 with h1|⟨b,us,h1,h2,h3,h4,h5,h6⟩
 ·exact .inl h1
 ·refine .inr ⟨b,us,h1,h2,h3,fun j u hj=>h4 j u (by omega),fun j u d hu hd=>h5 j u d hu ?_,fun o=>by rw[h6];simp⟩
  rw[zDi o2]at hd
  rw[qAR]at hd
  split at hd
  ·exact hd
  ·cases hd
open Go.RowKit
def isB(v:Value): Prop:=∃b,v=.bool b
section
variable {P:Program}{η:List Ob}{σ:Sl}{dst:Option Nat}{ty:TypeId}{pos:String}{after:Array Edge}{gd:Option (Nat×Bool)}{t yt:TypeId}{x y:Operand}
theorem zDw{id i o n e sz:Nat}{mu:Bool}{xs:List D}{d:D}{ds:List D}(hx:oval σ x=.bptr id i o)(ht:zBL P t=some (true,n))(ho:η[id]?=some (.buf mu e sz xs))(hd:xs[i]?=some d)(hds:(d.flat.drop o).take n=ds)(hn:Nat.beq ds.length n=true)(hp:Nat.blt 0 n=true):
  Ylds P η σ ⟨dst,.load t x,ty,pos,after,gd⟩ (.d (.agg ds)):=by
 have hn:=qAf hn
 have hp:0<n:=by simpa using hp
 subst hds
 refine Ylds.same fun g w a hi h=>?_
 have h1:=h x (by simp[Op.operands]);rw[hx]at h1
 obtain⟨hid,b,hb,hv⟩:=h1
 obtain⟨hgs,hf,_,hcl,hbo⟩:=hi.ob id _ ho
 have hil:i<xs.length:=(qAA.1 hd).1
 have hfd:=hf d (qAH hd)
 have hln:o+n<=sz:=by rw[qAK,qAb]at hn;omega
 have hmul:(i+1)*sz<=xs.length*sz:=qAe _ hil
 rw[qAu]at hmul
 rcases hbo with⟨h0,_⟩|⟨b',us,h2,h3,h4,h5,h6,_⟩
 ·rw[hb]at h0;cases h0
 ·rw[hb]at h2;injection h2 with h2;subst h2
  have hmul2:xs.length*sz<=g.cap id*sz:=qAe _ hcl
  have hrun:=run_loadCells_list (P:=P) w ⟨b,i*sz+o,none⟩ ((us.toList.drop (i*sz+o)).take n) (fun j v hj=>by
   rw[qAR]at hj
   split at hj
   ·rw[Addr.add_lit,cell_of_row w b _ us e (0,0) h3]
    simpa using hj
   ·cases hj)
  have hlen:((us.toList.drop (i*sz+o)).take n).length=n:=by rw[qAK,qAb,qAS];omega
  rw[hlen]at hrun
  refine⟨.agg ((us.toList.drop (i*sz+o)).take n).toArray,?_,.agg _ _ (by omega) (fun u hm=>?_) (fun j u d' hj hd'=>?_)⟩
  ·simp only[execOp,hv,hgs,Instr.loadAt,Instr.sureAddr,loadVar,Sem.run_bind,Sem.run_pure,Result.andThen_ok,(zBt ht w).1,(zBt ht w).2,if_true,hrun]
  ·obtain⟨j,hj⟩:=List.getElem?_of_mem hm
   have hjl:j<n:=by have:=(qAA.1 hj).1;omega
   rw[qAR,if_pos hjl,qAh]at hj
   exact h5 (i*sz+o+j) u (by omega) (by simpa using hj)
  ·have hjl:j<n:=by have:=(qAA.1 hj).1;omega
   rw[qAR,if_pos hjl,qAh]at hj hd'
   refine h6 (i*sz+(o+j)) u d' (by rw[<-Nat.add_assoc];simpa using hj) ?_
   exact(zFY hf hd (by omega)).trans hd'
theorem zJY(w:World){e:TypeId}(he:zBd P t=some e)(o:Option Addr)(n c:Nat): ∃b,(do eqGuard .eql t x y (.slice o n c) (.slice none 0 0);binOp .eql t (.slice o n c) (.slice none 0 0):Sem Value).run P w=.ok (.bool b) w/\(o≠none->b=false):=by
 have hg:(eqGuard .eql t x y (.slice o n c) (.slice none 0 0)).run P w=.ok () w:=by first|rfl|simp[eqGuard]|simp[go_sem]
 have:=run_equal_slice_nil (P:=P) (w:=w) t e o n c (zBx he)
 cases o with
 |none=>exact⟨true,by simp only[Sem.run_bind,hg,Result.andThen_ok];simp[go_sem,binOp,this],fun h=>absurd rfl h⟩
 |some ad=>exact⟨false,by simp only[Sem.run_bind,hg,Result.andThen_ok];simp[go_sem,binOp,this],fun _=>rfl⟩
theorem zVQ{id n:Nat}(hx:oval σ x=.buf id n)(hy:oval σ y=.nil)(hu:(zBd P t).isSome=true): Ylds P η σ ⟨dst,.binOp .eql t x y yt,ty,pos,after,gd⟩ (.p isB):=by
 obtain⟨e,he⟩:=qA4.1 hu
 refine Ylds.same fun g w a hi h=>?_
 have h1:=h x (by simp[Op.operands]);rw[hx]at h1
 have h2:=h y (by simp[Op.operands]);rw[hy]at h2
 obtain⟨_,hv⟩:=h1
 change _=_ at h2
 obtain⟨b,hb,_⟩:=zJY (P:=P) (x:=x) (y:=y) w he ((g.blk id).map (⟨·,0,none⟩)) n (g.cap id)
 refine⟨.bool b,?_,b,rfl⟩
 simp only[Sem.run_bind]at hb
 simp only[execOp,hv,h2,Sem.run_bind,hb,Result.andThen_ok,Sem.run_pure]
theorem zS3{id n e sz:Nat}{mu:Bool}{xs:List D}(hx:oval σ x=.buf id n)(hy:oval σ y=.nil)(hu:(zBd P t).isSome=true)(ho:η[id]?=some (.buf mu e sz xs))(hn:n<=xs.length)(h0:0<n): Ylds P η σ ⟨dst,.binOp .eql t x y yt,ty,pos,after,gd⟩ (.d (.val (.bool false))):=by
 obtain⟨e,he⟩:=qA4.1 hu
 refine Ylds.same fun g w a hi h=>⟨.bool false,?_,.val _⟩
 have h1:=h x (by simp[Op.operands]);rw[hx]at h1
 have h2:=h y (by simp[Op.operands]);rw[hy]at h2
 obtain⟨_,hv⟩:=h1
 change _=_ at h2
 obtain⟨_,_,_,hcl,hb⟩:=hi.ob id _ ho
 have hbb:g.blk id≠none:=by
  rcases hb with⟨_,h0'⟩|⟨b,_,hb,_⟩
  ·omega
  ·rw[hb];intro c;cases c
 obtain⟨b,hb,hbf⟩:=zJY (P:=P) (x:=x) (y:=y) w he ((g.blk id).map (⟨·,0,none⟩)) n (g.cap id)
 have:b=false:=hbf (by cases hq:g.blk id with|none=>exact absurd hq hbb|some q=>intro c;cases c)
 subst this
 simp only[Sem.run_bind]at hb
 simp only[execOp,hv,h2,Sem.run_bind,hb,Result.andThen_ok,Sem.run_pure]
end
theorem zFZ{C:Ctx}{Q:Exit->Sl->List Ob->Prop}{s σ:Sl}{h η:List Ob}{id:Nat}{l:List Oper}(f:Fits s h σ η)(hw:alex C false l.toArray l (Q .normal) s h): awp C (.region id l.toArray false) Q σ η:=zCI f (zAA hw)
theorem zKB{C:Ctx}{Q:Exit->Sl->List Ob->Prop}{σ:Sl}{η:List Ob}{x:Operand}{c d:Code}(hx:oval σ x=.p isB)(h1:awp C c Q σ η)(h2:awp C d Q σ η): awp C (.cond x c d) Q σ η:=by
 intro R hR a w hab
 obtain⟨g,hg⟩:=hab
 have hv:=hg.eval x
 rw[hx]at hv
 obtain⟨b,e⟩:=hv
 exact wp_cond_split e (fun _=>h1 R hR a w ⟨g,hg⟩) (fun _=>h2 R hR a w ⟨g,hg⟩)
def zDJ(P:Program)(f:FuncId)(as:List SV)(pre:List Ob)(n:Nat)(e sz:Nat)(xs:List D): Prop :=
 ∀(g:Gh) (w:World) (vs:List Value),Inv g w pre->RepSs g w vs as->
  Calls P f vs.toArray w (fun r w'=>∃ob cap St',r=.returned (.slice (ob.map (⟨·,0,none⟩)) n cap)/\Below w.heap.size w w'/\Keep g.St w St' w'/\
   (∀b o,St' b o->g.St b o\/w.heap.size<=b)/\(∀b o,St' b o->b<w'.heap.size)/\cap<=maxLen/\xs.length<=cap/\(∀x∈xs,x.flat.length=sz)/\
   ((ob=none/\cap=0)\/∃b us,ob=some b/\w.heap.size<=b/\w'.heap[b]?=some (.cells us e (0,0))/\us.size=cap*sz/\(∀(j:Nat) (u:Value),j<xs.length*sz->us[j]?=some u->u.oneCell'=true)/\
    (∀(j:Nat) (u:Value) (d:D),us[j]?=some u->(zCH xs)[j]?=some d->RepD St' w' u d)/\∀o,¬St' b o))
def zaL(k:Nat)(rs:Array ResultVar)(n e sz:Nat)(xs:List D)(σ:Sl)(η:List Ob): Prop :=
 ∃r,rs = #[.tmp r]/\((get σ r=.nil/\xs=[]/\n=0)\/∃id,Nat.ble k id=true/\get σ r=.buf id n/\η[id]?=some (.buf true e sz xs))
def zDQ(k:Nat)(rs:Array ResultVar)(n e sz:Nat)(xs:List D): Exit->Sl->List Ob->Prop
 | .ret,σ,η=>zaL k rs n e sz xs σ η
 |_,_,_=>False
theorem zFy{k:Nat}{rs:Array ResultVar}{n e sz:Nat}{xs:List D}{σ:Sl}{η:List Ob}(h:zaL k rs n e sz xs σ η): zDQ k rs n e sz xs .ret σ η:=h
theorem zOw{P:Program}{f:FuncId}{fn:Func}{c:Code}{as:List SV}{pre:List Ob}{n e sz:Nat}{xs:List D}{N:Nat}{rs:Array ResultVar}(hf:P.funcs[f]?=some fn)(hb:fn.body=some c)(hN:fn.ntmps=N)(hrs:fn.results=rs)(hl:Nat.ble as.length N=true)
  (h:∀(w0:World) (St0:Stab),awp ⟨P,N,w0,St0,fun _=>False,pre.length⟩ c (zDQ pre.length rs n e sz xs) (zGU as 0) pre):zDJ P f as pre n e sz xs:=by
 intro g w vs hi hrep
 subst hN
 have hl:=qAM hl
 have hlen:=hrep.len
 refine calls_of_wp hf hb (h w g.St _ ?_ _ _ ?_)
 ·intro ex σ' η' a' w' hq ⟨g',ha⟩
  cases ex with
  |ret =>
   obtain⟨r,rfl,hq⟩:=hq
   have hnew:∀b o,g'.St b o->g.St b o\/w.heap.size<=b:=fun b o hb=>by
    rcases ha.new b o hb with h1|h1|h1
    ·exact .inl h1
    ·exact .inr h1
    ·exact h1.elim
   have hbel:Below w.heap.size w w':=⟨ha.os,ha.tape,ha.output,ha.wsize,fun k hk=>ha.heap k hk (fun h=>h)⟩
   refine⟨ha.defers,_,results_tmp hrs _ _ _,?_⟩
   rcases hq with⟨hq,rfl,rfl⟩|⟨id,hid,hq,ho⟩
   ·have:=ha.rep r;rw[hq]at this
    exact⟨none,0,g'.St,congrArg Ending.returned this,hbel,ha.keep,hnew,ha.inv.st,qAV _,qAN _,by simp,.inl ⟨rfl,rfl⟩⟩
   ·have:=ha.rep r;rw[hq]at this
    obtain⟨_,hv⟩:=this
    obtain⟨o1,o2,o3,o4,o5⟩:=ha.inv.ob id _ ho
    refine⟨g'.blk id,g'.cap id,g'.St,congrArg Ending.returned hv,hbel,ha.keep,hnew,ha.inv.st,o3,o4,o2,?_⟩
    rcases o5 with o5|⟨b,us,h1,h2,h3,h4,h5,h6⟩
    ·exact .inl o5
    ·refine .inr ⟨b,us,h1,?_,h2,h3,h4,h5,fun o hc=>by have:=(h6 o).1 hc;cases this.1⟩
     rcases ha.own id b h1 (qAM hid)with h7|h7
     ·exact h7
     ·exact h7.elim
  |_=>exact hq.elim
 ·refine⟨g,rfl,?_,hi,rfl,rfl,rfl,qAN _,fun _ _ _=>rfl,Keep.refl g.St w,fun _ _ h=>.inl h,fun i b hb hr=>?_,?_⟩
  ·simp[hlen];omega
  ·exfalso
   have h1:pre.length<=i:=hr
   have h2:=hi.dead i (by rw[hi.n];exact h1)
   rw[h2]at hb;cases hb
  ·refine zFF vs as 0 _ hrep fun j v hj=>?_
   have hjl:j<vs.length:=(qAA.1 hj).1
   simp only[qAU,qAJ]
   rw[qAq (by simpa using hjl)]
   simp[hj]
section
variable {C:Ctx}{ops:Array Oper}{rest:List Oper}{K:Sl->List Ob->Prop}{σ:Sl}{η:List Ob}{d:Nat}{ty:TypeId}{pos:String}{after:Array Edge}{gd:Option (Nat×Bool)}
theorem zV3{f:FuncId}{args:List Operand}{ts:Array TypeId}{as:List SV}{pre:List Ob}{n e sz:Nat}{xs:List D}(ids:List Nat)(hb:zAO C.P f=true)(hc:zDJ C.P f as pre n e sz xs)(ha:SArgs σ ids args as)(hp:Picks η ids pre)(hd:Nat.blt d C.N=true)
  (hn:ids.Nodup) (hlen:ids.length=pre.length) (hu:zFr pre=true) (hbl:pre.all (Ob.below pre.length)=true) (hba:as.all (SV.bel pre.length)=true) (hro:Nat.ble C.ro η.length=true)
  (h:alex C false ops rest K ((d,.buf η.length n)::σ) (η++[.buf true e sz xs])) :
  zBE C false ops ⟨some d,.call ⟨.value (.func f),args.toArray,ts⟩,ty,pos,after,gd⟩ rest K σ η:=by
 intro Q hQ a w ⟨g,hg⟩ K' hK'
 obtain⟨e1,e2⟩:=ha.rep hg
 unfold Oper.wp
 have hrun:(execOp a.eval ⟨some d,.call ⟨.value (.func f),args.toArray,ts⟩,ty,pos,after,gd⟩).run C.P w=.ok (.enter f (args.map a.eval).toArray) w:=by
  simp only[execOp,resolve,Act.eval,Deferred.ofValue,invoke,Sem.run_bind,Sem.run_pure,Result.andThen_ok,qA9,Array.empty_append,Array.append_empty]
  exact zEX hb
 rw[hrun,Oper.upon_enter]
 have hr:=RepSs.callee (g:=g) (w:=w) hlen (args.map a.eval) as e2 (by simp[e1]) hba
 refine(hc (zBy g ids) w _ (hg.inv.callee hn hlen hp hu hbl) hr).mono fun r w' ⟨ob,cap,St',he,hbel,hkeep,hnew,hlt,hcm,hxc,hfx,hob⟩=>?_
 subst he
 refine hK' _ _ (h Q hQ _ w' ?_)
 have hn:=hg.inv.n
 let g':Gh:={ St:=St',blk:=upd g.blk g.n ob,cap:=upd g.cap g.n cap,sz:=upd g.sz g.n sz,n:=g.n+1 }
 have hold:∀id,id<g.n->g'.blk id=g.blk id/\g'.cap id=g.cap id/\g'.sz id=g.sz id:=fun id hid=>by simp[g',upd,Nat.ne_of_lt hid]
 have hab:=hg.newOb (g':=g') (w':=w') (.buf true e sz xs) hbel.os hbel.tape hbel.output hbel.size hbel.block rfl hold (fun id hid=>by
   have hne:id≠g.n:=by omega
   simp only[g',upd,if_neg hne]
   exact hg.inv.dead id (by omega)) (fun b hb=>by
   have hb:ob=some b:=by simpa[g',upd]using hb
   rcases hob with⟨h1,_⟩|⟨b',us,h1,h2,h3,_⟩
   ·rw[h1]at hb;cases hb
   ·rw[h1]at hb;injection hb with hb;subst hb;exact⟨h2,(qAr.1 h3).1⟩) hkeep.sub hnew hlt (by rw[hn];exact qAM hro)
  ⟨by simp[g',upd],hfx,by simpa[g',upd]using hcm,by simpa[g',upd]using hxc,by
   rcases hob with⟨h1,h2⟩|⟨b',us,h1,h2,h3,h4,h5,h6,h7⟩
   ·exact .inl (by simp[g',upd,h1,h2])
   ·exact .inr ⟨b',us,by simp[g',upd,h1],h3,by simpa[g',upd]using h4,h5,h6,fun o=>⟨fun hc=>absurd hc (h7 o),fun hc=>by cases hc.1⟩⟩⟩
 refine⟨g',hab.put (d:=some d) hd ⟨?_,?_⟩⟩
 ·show η.length<g.n+1;omega
 ·show _=Value.slice ((upd g.blk g.n ob η.length).map _) _ (upd g.cap g.n cap η.length)
  rw[<-hn];simp[upd]
end
def zQP(P:Program)(t:TypeId): Option (Nat×Nat) :=
 match P.underlying t with
 |some (.array len e)=>(P.info? e).map fun i=>(len,i.size)
 |_=>none
theorem zKs{P:Program}{t len n:Nat}(h:zQP P t=some (len,n)): ∃e i,P.underlying t=some (.array len e)/\P.info? e=some i/\i.size=n:=by
 unfold zQP at h
 split at h
 ·rename_i l e hu
  cases hi:P.info? e with
  |none=>simp[hi]at h
  |some i=>simp[hi]at h;exact⟨e,i,by rw[hu,h.1],hi,h.2⟩
 ·cases h
section
variable {P:Program}{η:List Ob}{σ:Sl}{dst:Option Nat}{ty:TypeId}{pos:String}{after:Array Edge}{gd:Option (Nat×Bool)}{t:TypeId}{x y:Operand}
theorem zN2{id o len sz:Nat}{n:Int}{k:IntKind}(hx:oval σ x=.ptr id o)(hy:oval σ y=.d (.val (.int k n)))(hs:zQP P t=some (len,sz))(h:0<=n/\n<(len:Int)):
  Ylds P η σ ⟨dst,.indexAddr t x y,ty,pos,after,gd⟩ (.ptr id (o+n.toNat*sz)):=by
 obtain⟨e,i,hu,hinf,hsz⟩:=zKs hs
 refine Ylds.same fun g w a hi hr=>?_
 have hxr:=hr x (by simp[Op.operands])
 rw[hx]at hxr
 obtain⟨hid,b,hb,hv⟩:=hxr
 have hyr:=hr y (by simp[Op.operands])
 rw[hy]at hyr
 refine⟨.pointer (some ⟨b,o+n.toNat*sz,none⟩),?_,⟨hid,b,hb,rfl⟩⟩
 simp[execOp,hv,RepD.val_eq hyr,Instr.indexAt,asIntOf,Instr.sureAddr,run_underlying hu,h.1,h.2,sizeOf,typeInfo,hinf,hsz,Addr.add_lit]
def zRl(σ:Sl): List (Nat×Operand)->List (Nat×Value)->Prop
 |[],[]=>True
 |p::ps,q::qs=>(p.1=q.1/\oval σ p.2=.d (.val q.2))/\zRl σ ps qs
 |_,_=>False
theorem zHS: ∀{ps:List (Nat×Operand)} {qs:List (Nat×Value)},zRl σ ps qs->ps.length=qs.length/\∀(j:Nat) (p:Nat×Operand) (q:Nat×Value),ps[j]?=some p->qs[j]?=some q->p.1=q.1/\oval σ p.2=.d (.val q.2)
 |[],[],_=>⟨rfl,fun j p q hp=>by simp at hp⟩
 |p::ps,q::qs,h=>by
  obtain⟨h1,h2⟩:=zHS (ps:=ps) (qs:=qs) h.2
  refine⟨by simp[h1],fun j p' q' hp hq=>?_⟩
  cases j with
  |zero=>simp at hp hq;subst hp;subst hq;exact h.1
  |succ j=>exact h2 j p' q' (by simpa using hp) (by simpa using hq)
 |[],_::_,h=>h.elim
 |_::_,[],h=>h.elim
theorem zPL{ps:List (Nat×Operand)}{vs:List (Nat×Value)}{cells:List Value}(hp:zRl σ ps vs)(hb:P.built t vs=some cells.toArray)(h1:cells.all (·.oneCell')=true):
  Ylds P η σ ⟨dst,.build t ps.toArray,ty,pos,after,gd⟩ (.d (.agg (cells.map .val))) :=
 zYP (zHS hp).1 (zHS hp).2 hb h1
end
end Go.Sx
namespace Go.Sx
theorem Inv.noRow{g:Gh}{w:World}{η:List Ob}(hi:Inv g w η)(e sz:Nat):
  ∃g':Gh,Inv g' w (η++[.buf true e sz []])/\g'.St=g.St/\(∀id,id<g.n->g'.blk id=g.blk id/\g'.cap id=g.cap id/\g'.sz id=g.sz id)/\g'.n=g.n+1/\g'.blk g.n=none/\g'.cap g.n=0/\(∀j b,g'.blk j=some b->g.blk j=some b):=by
 have hn:=hi.n
 let g':Gh:={ g with blk:=upd g.blk g.n none,cap:=upd g.cap g.n 0,sz:=upd g.sz g.n sz,n:=g.n+1 }
 have hold:∀id,id<g.n->g'.blk id=g.blk id/\g'.cap id=g.cap id/\g'.sz id=g.sz id:=fun id hid=>by simp[g',upd,Nat.ne_of_lt hid]
 have hbl:∀j b,g'.blk j=some b->g.blk j=some b:=fun j b hb=>by
  by_cases h:j=g.n
  ·subst h;simp[g',upd]at hb
  ·simpa[g',upd,h]using hb
 have kp:Keep g.St w g'.St w:=⟨fun _ _ h=>h,fun _ _ _ _ h=>h,fun _ _=>rfl⟩
 refine⟨g',⟨by show g.n+1=_;rw[hn];simp,fun id b hb=>hi.lt id b (hbl id b hb),fun id hid=>?_,fun i j b h1 h2=>hi.inj i j b (hbl i b h1) (hbl j b h2),fun id o ho=>?_,hi.st,hi.gl⟩,rfl,hold,rfl,by simp[g',upd],by simp[g',upd],hbl⟩
 ·have h1:g.n+1<=id:=hid
  have hne:id≠g.n:=by omega
  simp only[g',upd,if_neg hne]
  exact hi.dead id (by omega)
 ·rw[List.getElem?_append]at ho
  split at ho
  ·rename_i hc
   exact(hi.ob id o ho).ext kp hold (by show g.n<=g.n+1;omega) (by omega) (fun b hb=>⟨rfl,fun o=>Iff.rfl⟩)
  ·rename_i hc
   have hid:id=g.n:=by
    have:=(qAA.1 ho).1
    simp at this;omega
   subst hid
   rw[show g.n-η.length=0 by omega]at ho
   simp at ho;subst ho
   exact⟨by simp[g',upd],by simp,by simp[g',upd],by simp,.inl ⟨by simp[g',upd],by simp[g',upd]⟩⟩
theorem RepSs.ext{g g':Gh}{w:World}(k:Keep g.St w g'.St w)(h:∀id,id<g.n->g'.blk id=g.blk id/\g'.cap id=g.cap id/\g'.sz id=g.sz id)(hn:g.n<=g'.n): ∀{vs:List Value} {ss:List SV},RepSs g w vs ss->RepSs g' w vs ss
 |[],[],_=>trivial
 |_::_,_::_,hr=>⟨hr.1.ext k h hn,RepSs.ext k h hn hr.2⟩
 |[],_::_,hr=>hr.elim
 |_::_,[],hr=>hr.elim
theorem RepSs.split{g:Gh}{w:World}{bs:List SV}: ∀{as:List SV} {vs:List Value},RepSs g w vs (as++bs)->∃us ws,vs=us++ws/\RepSs g w us as/\RepSs g w ws bs
 |[],vs,h=>⟨[],vs,rfl,trivial,h⟩
 |_::_,[],h=>h.elim
 |a::as,v::vs,h=>by
  obtain⟨us,ws,e,h1,h2⟩:=RepSs.split (as:=as) h.2
  exact⟨v::us,ws,by rw[e];rfl,⟨h.1,h1⟩,h2⟩
theorem RepSs.join{g:Gh}{w:World}{ws:List Value}{bs:List SV}(h2:RepSs g w ws bs): ∀{us:List Value} {as:List SV},RepSs g w us as->RepSs g w (us++ws) (as++bs)
 |[],[],_=>h2
 |_::_,_::_,h=>⟨h.1,RepSs.join h2 h.2⟩
 |[],_::_,h=>h.elim
 |_::_,[],h=>h.elim
theorem zMP{P:Program}{f:FuncId}{pre post:List Ob}{res:SV}{e sz k:Nat}(avs bvs:List SV)(hk:pre.length=k)(h:zAU P f (avs ++ .buf k 0::bvs) (pre++[.buf true e sz []]) res post): zAU P f (avs ++ .nil::bvs) pre res post:=by
 subst hk
 intro g w vs hi hr
 obtain⟨g',hi',hst,hold,hn,hb,hc,hbl⟩:=hi.noRow e sz
 have kp:Keep g.St w g'.St w:=⟨fun _ _ h=>by rw[hst];exact h,fun _ _ _ _ h=>h,fun _ _=>rfl⟩
 obtain⟨us,ws,rfl,h1,h2⟩:=hr.split
 cases ws with
 |nil=>exact h2.elim
 |cons v ws =>
  obtain⟨h2,h3⟩:=h2
  have hv:v=.slice none 0 0:=h2
  have ext:=fun {vs:List Value} {ss:List SV} (r:RepSs g w vs ss)=>r.ext kp hold (by omega:g.n<=g'.n)
  have hr':RepSs g' w (us++v::ws) (avs ++ .buf pre.length 0::bvs):=(show RepSs g' w (v::ws) (.buf pre.length 0::bvs)from⟨⟨by rw[hn,hi.n];omega,by rw[hv,<-hi.n,hb,hc];rfl⟩,ext h3⟩).join (ext h1)
  refine(h g' w _ hi' hr').mono fun r w' ⟨v',g'',e1,e2,e3,F⟩=>⟨v',g'',e1,e2,e3,⟨F.os,F.tape,F.output,F.size,fun k hk hno=>F.heap k hk fun j hj=>hno j (hbl j k hj),hst▸F.keep,fun b o ho=>?_,fun j b hj=>?_,fun j o hj ho=>?_⟩⟩
  ·rcases F.new b o ho with h|h|⟨j,h⟩
   ·exact .inl (hst▸h)
   ·exact .inr (.inl h)
   ·exact .inr (.inr ⟨j,hbl j b h⟩)
  ·rcases F.own j b hj with h|⟨i,h⟩
   ·exact .inl h
   ·exact .inr ⟨i,hbl i b h⟩
  ·have hlt:j<pre.length:=(qAA.1 hj).1
   rw[F.box j o (by rw[qAF hlt];exact hj) ho]
   exact(hold j (by rw[hi.n];exact hlt)).1
theorem zEK{C:Ctx}{σ:Sl}{η:List Ob}{Q:Exit->Sl->List Ob->Prop}{c:Code}(id j:Nat){k:Option Nat}{et:Option TypeId}{cs:List SV}{s:SV}{d:D}(ho:η[id]?=some (.bx k et cs))(hj:cs[j]?=some s)(hc:Co η s d)
  (h:awp C c Q σ (η.set id (.bx k et (cs.set j (.d d))))):awp C c Q σ η:=by
 intro R hR a w ⟨g,ha⟩
 refine h R hR a w ⟨g,{ ha with inv:={ ha.inv with n:=by simpa using ha.inv.n,ob:=fun i o hi=>?_ } }⟩
 have hidl:id<η.length:=(qAA.1 ho).1
 rw[qAT]at hi
 split at hi
 ·rename_i e;subst e
  try rw[if_pos hidl]at hi
  injection hi with hi;subst hi
  obtain⟨b,e',us,h1,h2,h3,h4,h5,h6,h7⟩:=ha.inv.ob id _ ho
  refine⟨b,e',us,h1,h2,by simpa using h3,h4,fun m u s' hu hs=>?_,h6,h7⟩
  rw[qAT]at hs
  split at hs
  ·rename_i hm;subst hm
   have hjl:=(qAA.1 hj).1
   try rw[if_pos hjl]at hs
   injection hs with hs;subst hs
   exact Co.rep ha.inv (h5 j u _ hu hj) hc
  ·exact h5 m u s' hu hs
 ·exact ha.inv.ob i o hi
open Go.RowKit
theorem zKo{sz:Nat}{d':D}: ∀{xs:List D} {i:Nat},(∀x∈xs,x.flat.length=sz)->i<xs.length->zCH (xs.set i d')=(zCH xs).take (i*sz)++d'.flat++(zCH xs).drop (i*sz+sz)
 |x::r,0,hf,_=>by
  have h1:=hf x (by simp)
  simp only[zCH,qBh,qAd,Nat.zero_mul,qAU,List.take_zero,qBl]
  rw[<-h1,List.drop_left]
 |x::r,i+1,hf,hi=>by
  have h1:=hf x (by simp)
  have ih:=zKo (sz:=sz) (d':=d') (xs:=r) (i:=i) (fun y hy=>hf y (by simp[hy])) (by simpa using hi)
  simp only[zCH,List.set_cons_succ,qAd]at ih ⊢
  rw[ih,show (i+1)*sz=x.flat.length+i*sz by rw[qAu,h1];omega,List.take_length_add_append,show x.flat.length+i*sz+sz=x.flat.length+(i*sz+sz) by omega,List.drop_length_add_append]
  simp only[qAg]
 |[],_,_,hi=>by simp at hi
section
variable {C:Ctx}{ops:Array Oper}{rest:List Oper}{K:Sl->List Ob->Prop}{σ:Sl}{η:List Ob}{d:Nat}{ty:TypeId}{pos:String}{after:Array Edge}{gd:Option (Nat×Bool)}{t:TypeId}{x y:Operand}
theorem zJD{id i n e:Nat}{b0:Bool}{xs ds:List D}(hx:oval σ x=.bptr id i 0)(hy:oval σ y=.d (.agg ds))(ht:zBL C.P t=some (b0,n))(hn:Nat.beq ds.length n=true)(ho:η[id]?=some (.buf true e n xs))(hi:i<xs.length)(hro:Nat.ble C.ro id=true)
  (h:alex C false ops rest K σ (η.set id (.buf true e n (xs.set i (.agg ds))))):zBE C false ops ⟨none,.store t x y,ty,pos,after,gd⟩ rest K σ η:=by
 have hn:=qAf hn
 refine zMn (fun g a w ha=>?_) h
 have hp:=ha.eval x;rw[hx]at hp
 have hr:=ha.eval y;rw[hy]at hr
 obtain⟨hid,b,hb,hpv⟩:=hp
 obtain⟨o1,o2,o3,o4,o5⟩:=ha.inv.ob id _ ho
 rcases o5 with⟨h1,_⟩|⟨b',us,h1,h2,h3,h4,h5,h6⟩
 ·rw[h1]at hb;cases hb
 ·rw[hb]at h1;injection h1 with h1;subst h1
  obtain⟨c1,c2,c3⟩:=hr.cells (cs:=ds.map .d) rfl
  rw[qAC]at c1
  have hpos:i*n+n<=xs.length*n:=by
   have:=qAe n (show i+1<=xs.length by omega)
   rw[qAu]at this;omega
  have hcap:xs.length*n<=us.size:=by rw[h3];exact qAe _ o4
  have hst:=run_storeCells_at C.P b (i*n) e (a.eval y).cells.toList 0 us w h2 (by rw[qAS];omega) (fun v hm=>c2 v (by simpa using hm))
  simp only[qA2]at hst
  have hcl:(a.eval y).cells.toList.length=n:=by rw[qAS];omega
  have hfl:=zKo (sz:=n) (d':=.agg ds) o2 hi
  have hset:∀x∈xs.set i (.agg ds),x.flat.length=n:=fun x hx=>by
   rcases List.mem_or_eq_of_mem_set hx with h|h
   ·exact o2 x h
   ·rw[h];exact hn
  have e1:(us.toList.take (i*n)).length=i*n:=by rw[qAK,qAS];omega
  have e2:((zCH xs).take (i*n)).length=i*n:=by rw[qAK,zBu o2];omega
  have hget:∀j u,(us.toList.take (i*n)++(a.eval y).cells.toList++us.toList.drop (i*n+(a.eval y).cells.toList.length))[j]?=some u->
    ((j<i*n\/i*n+n<=j)/\us[j]?=some u)\/(i*n<=j/\j<i*n+n/\(a.eval y).cells[j-i*n]?=some u):=by
   intro j u hu
   rw[hcl,qAg]at hu
   rcases qAQ j (i*n)with hj|hj
   ·rw[qAF (by omega),qAR,if_pos hj]at hu
    exact .inl ⟨.inl hj,by simpa using hu⟩
   ·rw[qAG (by omega),e1]at hu
    rcases qAQ (j-i*n) n with hj2|hj2
    ·rw[qAF (by omega)]at hu
     exact .inr ⟨hj,by omega,by simpa using hu⟩
    ·rw[qAG (by omega),hcl,qAh]at hu
     refine .inl ⟨.inr (by omega),?_⟩
     rw[show i*n+n+(j-i*n-n)=j by omega]at hu
     simpa using hu
  refine⟨_,?_,g,ha.writeBuf (us':=(us.toList.take (i*n)++(a.eval y).cells.toList++us.toList.drop (i*n+(a.eval y).cells.toList.length)).toArray) ho (qAM hro) hb h2 (fun o hc=>by have:=(h6 o).1 hc;cases this.1) hset (by rw[qAa];exact o4) (by simp;omega) h3 (fun j u hj hu=>?_) (fun j u d' hu hd'=>?_)⟩
  ·rw[o1]at hpv
   simp only[execOp,hpv,Instr.storeAt,Instr.sureAddr,storeVar,Sem.run_bind,Sem.run_pure,Result.andThen_ok,(zBt ht w).2,c1,hn,ne_eq,not_true,if_false,qA2,hst]
  ·rw[qAa]at hj
   rw[qBN]at hu
   rcases hget j u hu with⟨_,h⟩|⟨_,_,h⟩
   ·exact h4 j u hj h
   ·exact c2 u (qA7 h)
  ·rw[qBN]at hu
   rw[hfl,qAg]at hd'
   have e3:(D.agg ds).flat.length=n:=hn
   rcases hget j u hu with⟨hj,h⟩|⟨hj1,hj2,h⟩
   ·refine h5 j u d' h ?_
    rcases hj with hj|hj
    ·rw[qAF (by omega),qAR,if_pos hj]at hd';exact hd'
    ·rw[qAG (by omega),e2,qAG (by omega),e3,qAh]at hd'
     rw[show i*n+n+(j-i*n-n)=j by omega]at hd'
     exact hd'
   ·rw[qAG (by omega),e2,qAF (by omega)]at hd'
    exact c3 (j-i*n) u (.d d') h (by rw[qAL];rw[show (D.agg ds).flat=ds from rfl]at hd';rw[hd'];rfl)
end
def FF(G:Nat->SV->SV): Nat->SV->SV
 |0,s=>s
 |i+1,s=>G i (FF G i s)
def TT(Tn:Nat->Sl->Sl): Nat->Sl->Sl
 |0,σ=>σ
 |i+1,σ=>Tn i (TT Tn i σ)
theorem zF2{G:Nat->SV->SV}{Tn:Nat->Sl->Sl}(hG:∀i τ t,get (Tn i τ) t=G i (get τ t)): ∀(i:Nat) (τ:Sl) (t:Nat),get (TT Tn i τ) t=FF G i (get τ t)
 |0,_,_=>rfl
 |i+1,τ,t=>by rw[TT,FF,hG,zF2 hG i τ t]
def zOM(C:Ctx)(l:List Oper)(es:List Nat)(ηs:List (List Ob))(G:Nat->SV->SV)(Tn:Nat->Sl->Sl)(j:Nat)(o:Oper)(s:SV)(σ:Sl): Prop:=match idxC es j with
 |some i=>∃d,o.dst=some d/\∀τ,(∀t,t∈o.looksAt l.toArray->get τ t=get (TT Tn i σ) t)->EStep C o (fun σ' η'=>(∀t,get σ' t=get ((d,FF G (i+1) s)::Tn i τ) t)/\η'=ηs.getD (i+1) []) τ (ηs.getD i [])
 |none=>∀(q:Nat) (η:List Ob),lowC l es j<=q->ηs[q]?=some η->Ylds C.P η (TT Tn q σ) o (FF G q s)
def segT(C:Ctx)(l:List Oper)(es:List Nat)(ηs:List (List Ob))(G:Nat->SV->SV)(Tn:Nat->Sl->Sl): Nat->List Oper->List SV->Sl->Prop
 |j,o::r,s::ss,σ=>(o.guard=none/\zDz C.N o.dst/\zOM C l es ηs G Tn j o s σ)/\segT C l es ηs G Tn (j+1) r ss (put σ o.dst s)
 |_,_,_,_=>True
theorem zQ8{C:Ctx}{l:List Oper}{es:List Nat}{ηs:List (List Ob)}{G:Nat->SV->SV}{Tn:Nat->Sl->Sl}(hG:∀i τ t,get (Tn i τ) t=G i (get τ t)): ∀(r:List Oper) (ss:List SV) (j:Nat) (σ:Sl),segT C l es ηs G Tn j r ss σ->∀(i:Nat) o s,r[i]?=some o->ss[i]?=some s->
  o.guard=none/\zDz C.N o.dst/\match idxC es (j+i)with
   |some k=>∃d,o.dst=some d/\∀τ,(∀t,t∈o.looksAt l.toArray->get τ t=FF G k (get (pst σ j r ss (fun m=>decide (m<j+i))) t))->EStep C o (fun σ' η'=>(∀t,get σ' t=get ((d,FF G (k+1) s)::Tn k τ) t)/\η'=ηs.getD (k+1) []) τ (ηs.getD k [])
   |none=>∀(q:Nat) (η:List Ob),lowC l es (j+i)<=q->ηs[q]?=some η->∀τ,(∀x∈o.op.operands,oval τ x=oval (TT Tn q (pst σ j r ss (fun m=>decide (m<j+i)))) x)->Ylds C.P η τ o (FF G q s)
 |_,[],_,_,_,i,o,s,_,hs=>by simp at hs
 |[],_::_,_,_,_,i,o,s,ho,_=>by simp at ho
 |o::r,s::ss,j,σ,h,0,o',s',ho,hs=>by
  simp at ho hs;subst ho;subst hs
  have e0:∀t,get (pst σ j (o::r) (s::ss) (fun m=>decide (m<j+0))) t=get σ t:=by
   intro t
   have:=zCN t (o::r) (s::ss) σ σ j (fun m=>decide (m<j+0)) (fun _=>false) rfl (fun i o' hi hne=>by simp at hne)
   rw[this,zDP]
  obtain⟨⟨h1,h2,h4⟩,_⟩:=h
  refine⟨h1,h2,?_⟩
  unfold zOM at h4
  rw[qA2]at *
  split
  ·rename_i k hk
   rw[hk]at h4
   obtain⟨d,h5,h6⟩:=h4
   exact⟨d,h5,fun τ hτ=>h6 τ fun t ht=>by rw[hτ t ht,e0,zF2 hG]⟩
  ·rename_i hk
   rw[hk]at h4
   intro q η hq hη τ hτ
   exact(h4 q η hq hη).congr fun x hx=>(hτ x hx).trans (zCx (fun t=>by rw[zF2 hG,zF2 hG,e0]) x)
 |o::r,s::ss,j,σ,h,i+1,o',s',ho,hs=>by
  have:=zQ8 hG r ss (j+1) _ h.2 i o' s' (by simpa using ho) (by simpa using hs)
  have hj:j+(i+1)=j+1+i:=by omega
  have hd:decide (j<j+1+i)=true:=by simp;omega
  simp only[pst,hj,hd]
  exact this
theorem zSj{C:Ctx}{Q:Exit->Sl->List Ob->Prop}{σ:Sl}{η:List Ob}{id:Nat}{l:List Oper}(ss:List SV)(es:List Nat)(ηs:List (List Ob))(G:Nat->SV->SV)(Tn:Nat->Sl->Sl)
  (hm:C.P.follows .mixedOrders=true) (hB:zFK l=true) (hsl:Nat.ble ss.length l.length=true) (hbar:ss.length=l.length\/zHB l.toArray (l.length-ss.length-1)=true) (hes:(es.all fun e=>Nat.blt e ss.length)=true) (hch:zKq l es=true)
  (hη:Nat.beq ηs.length (es.length+1)=true) (h0:ηs.getD 0 []=η) (hG:∀i τ t,get (Tn i τ) t=G i (get τ t))
  (hs:segT C l es ηs G Tn 0 l ss σ) (h:alex C true l.toArray (l.drop ss.length) (Q .normal) (TT Tn es.length (segσ l (ss.map .y) σ)) (ηs.getD es.length [])):awp C (.region id l.toArray true) Q σ η:=by
 intro R hR a w ⟨g,hg⟩
 have hsl:=qAM hsl
 have hη:=qAf hη
 have hd0:Abs C σ η a { w with drawn:=w.drawn+1 }:=⟨g,hg.grow ⟨rfl,rfl,rfl,rfl,rfl,rfl,rfl,qAN _,fun _ _=>rfl,fun _ _ h=>h,fun _ _ h=>.inl h,hg.inv.st⟩⟩
 have hsv:(ss.map SegK.y).map SegK.sv=ss:=by rw[qBt];exact List.map_id ss
 have hat:=zQ8 hG l ss 0 σ hs
 have hnd:es.Nodup:=by
  rw[List.nodup_iff_pairwise_ne,List.pairwise_iff_getElem]
  intro i j hi hj hij
  have:=(zFL hch i j _ _ hij (qAB hi) (qAB hj)).1
  omega
 let I:(Nat->Bool)->Act->World->Prop:=fun f a w=>Abs C (TT Tn (cntC es f) (pst σ 0 l ss f)) (ηs.getD (cntC es f) []) a w
 refine wp_region_any hm (zKY (C:=C) (K:=Q .normal) (fun σ' η' a w hk hab=>hR _ _ _ _ _ hk hab) hB ss.length hsl hbar I ?_ ?_ _ _ a _ (by simp) ?_ ?_ (fun i _ hi=>?_) ?_)
 ·intro f a w hf hI
  refine⟨_,_,h,?_⟩
  have hc:cntC es f=es.length:=by
   unfold cntC
   rw[List.filter_eq_self.2 fun e he=>hf e (by have:=qAX.1 hes e he;simpa using this)]
  simp only[I,hc]at hI
  have:=zHl l (ss.map .y) 0 σ f (fun i hi=>by rw[qAU];exact hf i (by simpa using hi))
  rw[hsv]at this
  rw[this]at hI;exact hI
 ·intro f j o a w hjm hlj hun hcl hdep hI
  obtain⟨s,hsj⟩:∃s,ss[j]?=some s:=⟨_,qAB hjm⟩
  have same:=zGx (σ:=σ) (ss:=ss) hB hlj hun hcl hdep
  have next:=zGy (σ:=σ) hB hlj hsj hun hcl
  obtain⟨hgd,hdst,hop⟩:=hat j o s hlj hsj
  rw[qAU]at hop
  have hcl':∀j o,l.toArray[j]?=some o->f j=true->∀e∈o.after,Region.binds .any e=true->f e.on=true:=fun j o ho=>hcl j o (by simpa using ho)
  have hreach:∀e,zFO l.toArray l.length j e=true->f e=true:=fun e hr=>zCe hcl' l.length j o (by simpa using hlj) hdep hr
  simp only[I]at hI
  split at hop
  ·
   rename_i i hi
   have hei:=zJp es j _ hi
   obtain⟨d,hd,hE⟩:=hop
   have hcnt:cntC es f=i:=zNs (fun b x hb=>by
    rcases qBJ b i with hlt|heq|hgt
    ·rw[hreach x (zFL hch b i x j hlt hb hei).2];exact(decide_eq_true hlt).symm
    ·subst heq;rw[hb]at hei;injection hei with hei;subst hei;rw[hun];simp
    ·have hr:=(zFL hch i b j x hgt hei hb).2
     cases hfx:f x with
     |false=>exact(decide_eq_false (by omega)).symm
     |true =>
      exfalso
      have hxl:∃ox,l[x]?=some ox:=by
       have hxs:x<ss.length:=by have:=qAX.1 hes x (qAH hb);simpa using this
       exact⟨_,qAB (by omega)⟩
      obtain⟨ox,hox⟩:=hxl
      have:=zCe hcl' l.length x ox (by simpa using hox) (fun e he hbn=>hcl x ox hox hfx e he hbn) hr
      rw[hun]at this;cases this) (by have:=(qAA.1 hei).1;omega)
   rw[hcnt]at hI
   refine .inl ⟨by unfold Region.wanted;rw[hgd],?_⟩
   refine Oper.wp_mono ?_ (hE _ (fun t ht=>by rw[zF2 hG,same t ht]) _ a w hI)
   rintro a' w' ⟨σ',η'',⟨hσ',rfl⟩,hab⟩
   simp only[I,zO7 hnd hei hun,hcnt]
   refine hab.le fun t=>.inl ?_
   have hn2:=next t
   rw[hd]at hn2
   rw[hσ' t]
   simp only[put,zBi]at hn2 ⊢
   rw[zF2 hG,<-hn2]
   by_cases h5:d=t
   ·rw[if_pos h5,if_pos h5]
   ·rw[if_neg h5,if_neg h5,hG,zF2 hG];rfl
  ·
   rename_i hi
   have hnm:=zJq hi
   have hlow:lowC l es j<=cntC es f:=by unfold lowC;exact zNr (f:=fun e=>zFO l.toArray l.length j e) fun k _ hk=>hreach k hk
   have hlen:cntC es f<ηs.length:=by
    have:cntC es f<=es.length:=qA6 _ _
    omega
   have hη2:ηs[cntC es f]?=some (ηs.getD (cntC es f) []):=by
    rw[qAE,qAB hlen];rfl
   have hy:Ylds C.P (ηs.getD (cntC es f) []) (TT Tn (cntC es f) (pst σ 0 l ss f)) o (FF G (cntC es f) s):=hop _ _ hlow hη2 _ fun x hx=>by
    cases x with
    |tmp t=>show get _ t=get _ t;rw[zF2 hG,zF2 hG,same t (zBh hx)]
    |_=>rfl
   obtain⟨g,h1⟩:=hI
   refine .inl ⟨by unfold Region.wanted;rw[hgd],?_⟩
   refine hy.wp hdst (fun a' w' hab=>?_) h1
   simp only[I,zO8 hnm]
   refine hab.le fun t=>.inl ?_
   have hn2:=next t
   cases hdd:o.dst with
   |none =>
    rw[hdd]at hn2
    simp only[put]at hn2 ⊢
    rw[zF2 hG,zF2 hG,hn2]
   |some d =>
    rw[hdd]at hn2
    simp only[put,zBi]at hn2 ⊢
    rw[zF2 hG,<-hn2]
    by_cases h5:d=t
    ·rw[if_pos h5,if_pos h5]
    ·rw[if_neg h5,if_neg h5,zF2 hG]
 ·refine qAw (qA6 _ _) (by simp)
 ·intro j o hj hl
  have hjl:j<l.length:=(qAA.1 hj).1
  rw[qAJ,qAI (by simpa using hjl)]at hl
  simp at hl
 ·rw[qAJ,qAI (by simpa using hi)]
  simp
 ·have hf0:∀i,i<l.length->(Array.replicate l.toArray.size false).getD i true=false:=fun i hi=>by
   rw[qAJ,qAI (by simpa using hi)];simp
  have hc0:cntC es (fun i=>(Array.replicate l.toArray.size false).getD i true)=0:=by
   unfold cntC
   rw[List.filter_eq_nil_iff.2 fun e he=>by rw[hf0 e (by have:=qAX.1 hes e he;simp at this;omega)];simp];rfl
  simp only[I,hc0]
  obtain⟨g,hd0⟩:=hd0
  rw[h0]
  refine⟨g,{ hd0 with rep:=fun t=>?_ }⟩
  show RepS _ _ _ (get (pst σ 0 l ss _) t)
  rw[zCN t l ss σ σ 0 _ (fun _=>false) rfl (fun i o hi hne=>?_),zDP]
  ·exact hd0.rep t
  ·rw[qAU,hf0 i (qAA.1 hi).1]at hne
   exact absurd rfl hne
end Go.Sx
namespace Go.Sx
def JFit(s:Sl)(h:List Ob): Exit->Sl->List Ob->Prop
 | .normal,σ,η=>Fits s h σ η
 |_,_,_=>False
theorem zPD{C:Ctx}{Q:Exit->Sl->List Ob->Prop}{σ:Sl}{η:List Ob}{x:Operand}{c d rest:Code}{p:Prop}{ip:Decidable p}(hx:oval σ x=.d (.val (.bool (decide p))))(s:Sl)(h:List Ob)
  (h1:p->awp C c (JFit s h) σ η) (h2:¬p->awp C d (JFit s h) σ η) (h3:awp C rest Q s h):awp C (.cond x c d) (zBn (awp C rest Q) Q) σ η:=by
 have key:∀{c:Code},awp C c (JFit s h) σ η->awp C c (zBn (awp C rest Q) Q) σ η:=fun hc R hR a w hab=>hc R (fun e σ' η' a' w' hj hab'=>by
  cases e with
  |normal=>exact hR .normal σ' η' a' w' (zCI hj h3) hab'
  |_=>exact hj.elim) a w hab
 exact(zBa hx (fun hp=>key (h1 hp)) (fun hp=>key (h2 hp)))
theorem jfit{s σ:Sl}{h η:List Ob}(f:Fits s h σ η): JFit s h .normal σ η:=f
open Go.RowKit
def zXb(id:Nat): Nat->SV->SV
 |1,s=>s.kill id
 |_,s=>s
def zXa(id:Nat): Nat->Sl->Sl
 |1,σ=>zFP id σ
 |_,σ=>σ
theorem zZb(id:Nat): ∀(i:Nat) (τ:Sl) (t:Nat),get (zXa id i τ) t=zXb id i (get τ t)
 |0,_,_=>rfl
 |1,τ,t=>zFX id τ t
 |_+2,_,_=>rfl
section
variable {C:Ctx}{l:List Oper}{es:List Nat}{G:Nat->SV->SV}{Tn:Nat->Sl->Sl}{j:Nat}{o:Oper}{r:List Oper}{s:SV}{ss:List SV}{σ:Sl}{η0 η1 η2:List Ob}
theorem zT0{ηs:List (List Ob)}: segT C l es ηs G Tn j r [] σ:=by cases r <;> trivial
theorem zEQ(L:Nat)(hi:idxC es j=none)(hg:o.guard=none)(hd:zDz C.N o.dst)(hF1:FF G 1 s=s)(hF2:FF G 2 s=s)(hlow:lowC l es j=L)(y0:L<=0->Ylds C.P η0 σ o s)(y1:L<=1->Ylds C.P η1 (TT Tn 1 σ) o s)(y2:Ylds C.P η2 (TT Tn 2 σ) o s)
  (hr:segT C l es [η0,η1,η2] G Tn (j+1) r ss (put σ o.dst s)):segT C l es [η0,η1,η2] G Tn j (o::r) (s::ss) σ:=by
 refine⟨⟨hg,hd,?_⟩,hr⟩
 unfold zOM
 rw[hi]
 intro q η hq hη
 rw[hlow]at hq
 match q,hη with
 |0,hη=>injection hη with hη;subst hη;exact y0 hq
 |1,hη=>injection hη with hη;subst hη;rw[hF1];exact y1 hq
 |2,hη=>injection hη with hη;subst hη;rw[hF2];exact y2
 |q+3,hη=>simp at hη
theorem zVh{ηs:List (List Ob)}(i d:Nat)(hi:idxC es j=some i)(hg:o.guard=none)(hdst:o.dst=some d)(hd:Nat.blt d C.N=true)
  (hE:∀τ,(∀t,t∈o.looksAt l.toArray->get τ t=get (TT Tn i σ) t)->EStep C o (fun σ' η'=>(∀t,get σ' t=get ((d,FF G (i+1) s)::Tn i τ) t)/\η'=ηs.getD (i+1) []) τ (ηs.getD i []))
  (hr:segT C l es ηs G Tn (j+1) r ss (put σ o.dst s)):segT C l es ηs G Tn j (o::r) (s::ss) σ:=by
 refine⟨⟨hg,by rw[hdst];exact hd,?_⟩,hr⟩
 unfold zOM
 rw[hi]
 exact⟨d,hdst,hE⟩
end
section
variable {C:Ctx}{ops:Array Oper}{l:List Oper}{K:Sl->List Ob->Prop}{σ:Sl}{η:List Ob}
theorem zQU(t:Nat){s:SV}{d:D}(hs:get σ t=s)(hc:Co η s d)(h:alex C false ops l K ((t,.d d)::σ) η): alex C false ops l K σ η:=by
 intro Q hQ a w ⟨g,ha⟩
 refine h Q hQ a w ⟨g,{ ha with rep:=fun u=>?_ }⟩
 rw[zBi]
 split
 ·rename_i e;subst e
  have:=ha.rep t;rw[hs]at this
  exact Co.rep ha.inv this hc
 ·exact ha.rep u
end
structure Fn where
 d:Nat
 v:Nat->Value
 ob:Obj
 o:Nat->Ob
structure FnOk(p:Fn): Prop where
 inj:∀{b c:Nat},p.v b=p.v c->b=c
 ok:∀(g:Gh) (w:World) (id b:Nat),g.blk id=some b->w.heap[b]?=some p.ob->(∀o,¬g.St b o)->ObOk g w id (p.o b)
inductive SegF where
 |y (s:SV)
 |mk (p:Fn)
def SegF.sv: SegF->SV
 | .y s=>s
 | .mk _=>.top
def MkF(P:Program)(o:Oper)(σ:Sl)(p:Fn): Prop :=
 FnOk p/\∀(ev:Operand->Value) (g:Gh) (w:World),(∀x∈o.op.operands,RepS g w (ev x) (oval σ x))->(execOp ev o).run P w=.ok (.value (p.v w.heap.size)) (w.alloc p.ob)
def zPi(C:Ctx)(l:List Oper)(η:List Ob): Nat->List Oper->List SegF->Sl->Prop
 |j,o::r,.y s::ks,σ=>((Wants l.toArray σ o.guard true/\Ylds C.P η σ o s)/\zDz C.N o.dst)/\zPi C l η (j+1) r ks (put σ o.dst s)
 |j,o::r,.mk p::ks,σ=>((MkF C.P o σ p/\o.guard=none/\o.dst=some p.d/\once l j p.d=true)/\zDz C.N o.dst)/\zPi C l η (j+1) r ks (put σ o.dst .top)
 |_,_,[],_=>True
 |_,[],_::_,_=>False
def pnF: List SegF->List Fn
 |[]=>[]
 | .mk p::r=>p::pnF r
 |_::r=>pnF r
def zPg: List Oper->List SegF->Sl->Sl
 |o::r,k::ks,σ=>zPg r ks (put σ o.dst k.sv)
 |_,_,σ=>σ
def adσF: List Fn->List Nat->Sl->Sl
 |p::r,b::bs,σ=>adσF r bs ((p.d,.d (.val (p.v b)))::σ)
 |_,_,σ=>σ
def adηF: List Fn->List Nat->List Ob
 |p::r,b::bs=>p.o b::adηF r bs
 |_,_=>[]
def FreshF(C:Ctx)(g:Gh)(w:World)(v:Value)(p:Fn): Prop:=∃b,v=p.v b/\w.heap[b]?=some p.ob/\(∀o,¬g.St b o)/\(∀id,g.blk id≠some b)/\C.w0.heap.size<=b/\b<w.heap.size
theorem FreshF.grow{C:Ctx}{g g':Gh}{w w':World}{v:Value}{p:Fn}(h:FreshF C g w v p)(k:Grow g w g' w'): FreshF C g' w' v p:=by
 obtain⟨b,h1,h2,h3,h4,h5,h6⟩:=h
 refine⟨b,h1,(k.heap b h6).trans h2,fun o ho=>?_,fun id=>by rw[k.blk];exact h4 id,h5,qAW h6 k.size⟩
 rcases k.new b o ho with h7|h7
 ·exact h3 o h7
 ·omega
theorem zJX{C:Ctx}{l:List Oper}{η:List Ob}: ∀(r:List Oper) (ks:List SegF) (j:Nat) (σ:Sl),zPi C l η j r ks σ->ks.length<=r.length
 |_,[],_,_,_=>qAV _
 |[],.y _::_,_,_,h=>h.elim
 |[],.mk _::_,_,_,h=>h.elim
 |_::r,.y _::ks,_,_,h=>Nat.succ_le_succ (zJX r ks _ _ h.2)
 |_::r,.mk _::ks,_,_,h=>Nat.succ_le_succ (zJX r ks _ _ h.2)
theorem MkF.congr{P:Program}{o:Oper}{σ σ':Sl}{p:Fn}(e:∀x∈o.op.operands,oval σ' x=oval σ x)(h:MkF P o σ p): MkF P o σ' p :=
 ⟨h.1,fun ev g w hx=>h.2 ev g w fun x hm=>by rw[<-e x hm];exact hx x hm⟩
theorem zOO{C:Ctx}{l:List Oper}{η:List Ob}: ∀(r:List Oper) (ks:List SegF) (j:Nat) (σ:Sl),zPi C l η j r ks σ->∀(i:Nat) o k,r[i]?=some o->ks[i]?=some k->zDz C.N o.dst/\
  (match k with
  | .y s=>Wants l.toArray (pst σ j r (ks.map SegF.sv) (fun m=>decide (m<j+i))) o.guard true/\Ylds C.P η (pst σ j r (ks.map SegF.sv) (fun m=>decide (m<j+i))) o s
  | .mk p=>MkF C.P o (pst σ j r (ks.map SegF.sv) (fun m=>decide (m<j+i))) p/\o.guard=none/\o.dst=some p.d/\once l (j+i) p.d=true)
 |_,[],_,_,_,i,o,k,_,hk=>by simp at hk
 |[],_::_,_,_,_,i,o,k,ho,_=>by simp at ho
 |o::r,k::ks,j,σ,h,0,o',k',ho,hk=>by
  simp at ho hk;subst ho;subst hk
  have e0:∀t,get (pst σ j (o::r) ((k::ks).map SegF.sv) (fun m=>decide (m<j+0))) t=get σ t:=by
   intro t
   have:=zCN t (o::r) ((k::ks).map SegF.sv) σ σ j (fun m=>decide (m<j+0)) (fun _=>false) rfl (fun i o' hi hne=>by simp at hne)
   rw[this,zDP]
  cases k with
  |y s =>
   obtain⟨⟨⟨h1,h2⟩,h3⟩,_⟩:=h
   exact⟨h3,h1.congr e0,h2.congr fun x _=>zCx e0 x⟩
  |mk p =>
   obtain⟨⟨⟨h1,h2,h3,h4⟩,h5⟩,_⟩:=h
   exact⟨h5,h1.congr fun x _=>zCx e0 x,h2,h3,h4⟩
 |o::r,k::ks,j,σ,h,i+1,o',k',ho,hk=>by
  have hr:zPi C l η (j+1) r ks (put σ o.dst k.sv):=by cases k <;> exact h.2
  have:=zOO r ks (j+1) _ hr i o' k' (by simpa using ho) (by simpa using hk)
  have hj:j+(i+1)=j+1+i:=by omega
  have hd:decide (j<j+1+i)=true:=by simp;omega
  simp only[qAs,pst,hj,hd]
  exact this
theorem zL4: ∀(r:List Oper) (ks:List SegF) (j:Nat) (σ:Sl) (f:Nat->Bool),(∀i,i<ks.length->f (j+i)=true)->pst σ j r (ks.map SegF.sv) f=zPg r ks σ
 |_,[],_,_,_,_=>by simp[pst,zPg]
 |[],_::_,_,_,_,_=>by simp[pst,zPg]
 |o::r,k::ks,j,σ,f,h=>by
  have h0:=h 0 (by simp)
  rw[qA2]at h0
  simp only[qAs,pst,h0,zPg]
  exact zL4 r ks (j+1) _ f fun i hi=>by have:=h (i+1) (by simpa using hi);rw[show j+1+i=j+(i+1) by omega];exact this
theorem zJf: ∀{ks:List SegF} {p:Fn},p∈pnF ks->∃j:Nat,ks[j]?=some (.mk p)
 |[],_,h=>by simp[pnF]at h
 | .y _::ks,p,h=>by obtain⟨j,hj⟩:=zJf (ks:=ks) h;exact⟨j+1,by simpa using hj⟩
 | .mk q::ks,p,h=>by
  rcases qBE.1 h with h|h
  ·exact⟨0,by rw[h];rfl⟩
  ·obtain⟨j,hj⟩:=zJf (ks:=ks) h;exact⟨j+1,by simpa using hj⟩
theorem zLN{R:Fn->Fn->Prop}: ∀(ks:List SegF),(∀(i j:Nat) p q,ks[i]?=some (.mk p)->ks[j]?=some (.mk q)->i≠j->R p q)->(pnF ks).Pairwise R
 |[],_=>List.Pairwise.nil
 | .y _::ks,h=>zLN ks fun i j p q hi hj hne=>h (i+1) (j+1) p q (by simpa using hi) (by simpa using hj) (by omega)
 | .mk p::ks,h=>List.Pairwise.cons (fun q hq=>by
   obtain⟨j,hj⟩:=zJf hq
   exact h 0 (j+1) p q rfl (by simpa using hj) (by omega)) (zLN ks fun i j p q hi hj hne=>h (i+1) (j+1) p q (by simpa using hi) (by simpa using hj) (by omega))
theorem AbsG.adoptF{C:Ctx}{g:Gh}{σ:Sl}{η:List Ob}{a:Act}{w:World}(h:AbsG C g σ η a w){p:Fn}{b:Nat}(hp:FnOk p)(hv:a.tmps.getD p.d undef=p.v b)(f2:w.heap[b]?=some p.ob)(f3:∀o,¬g.St b o)(f4:∀id,g.blk id≠some b)(f5:C.w0.heap.size<=b)(f6:b<w.heap.size):
  ∃g',AbsG C g' ((p.d,.d (.val (p.v b)))::σ) (η++[p.o b]) a w/\g'.St=g.St/\(∀id c,g'.blk id=some c->g.blk id=some c\/c=b)/\∀{v:Value} {s:SV},RepS g w v s->RepS g' w v s:=by
 have hn:=h.inv.n
 let g':Gh:={ g with blk:=upd g.blk g.n (some b),n:=g.n+1 }
 have hold:∀id,id<g.n->g'.blk id=g.blk id/\g'.cap id=g.cap id/\g'.sz id=g.sz id:=fun id hid=>⟨by simp[g',upd,Nat.ne_of_lt hid],rfl,rfl⟩
 have hbn:g'.blk g.n=some b:=by simp[g',upd]
 have hb':∀id c,g'.blk id=some c->(id<g.n/\g.blk id=some c)\/(id=g.n/\c=b):=by
  intro id c hc
  rcases qBJ id g.n with hi|hi|hi
  ·rw[(hold id hi).1]at hc;exact .inl ⟨hi,hc⟩
  ·subst hi;rw[hbn]at hc;injection hc with hc;exact .inr ⟨rfl,hc.symm⟩
  ·have hne:id≠g.n:=by omega
   simp only[g',upd,if_neg hne]at hc
   rw[h.inv.dead id (by omega)]at hc;cases hc
 have kp:=Keep.refl g.St w
 have rx:∀{v:Value} {s:SV},RepS g w v s->RepS g' w v s:=fun r=>r.ext (g':=g') kp hold (Nat.le_succ _)
 refine⟨g',⟨h.defers,h.size,⟨by rw[qAD];show g.n+1=_;rw[hn];rfl,fun id c hc=>?_,fun id hid=>?_,fun i j c hi hj=>?_,fun id o ho=>?_,h.inv.st,h.inv.gl⟩,h.os,h.tape,h.output,h.wsize,h.heap,h.keep,h.new,fun id c hc hr=>?_,fun u=>?_⟩,rfl,fun id c hc=>?_,rx⟩
 ·rcases hb' id c hc with⟨_,q⟩|⟨_,rfl⟩
  ·exact h.inv.lt id c q
  ·exact f6
 ·have hid:g.n+1<=id:=hid
  have hne:id≠g.n:=by omega
  simp only[g',upd,if_neg hne];exact h.inv.dead id (by omega)
 ·rcases hb' i c hi with⟨q1,q2⟩|⟨q1,q2⟩ <;> rcases hb' j c hj with⟨q3,q4⟩|⟨q3,q4⟩
  ·exact h.inv.inj i j c q2 q4
  ·exact absurd (q4▸q2) (f4 i)
  ·exact absurd (q2▸q4) (f4 j)
  ·omega
 ·rw[List.getElem?_append]at ho
  split at ho
  ·rename_i hc
   exact(h.inv.ob id o ho).ext (g':=g') kp hold (Nat.le_succ _) (by omega) (fun _ _=>⟨rfl,fun _=>Iff.rfl⟩)
  ·rename_i hc
   have hid:id=g.n:=by
    have:=(qAA.1 ho).1
    simp at this;omega
   subst hid
   have:g.n-η.length=0:=by omega
   rw[this]at ho
   simp at ho;subst ho
   exact hp.ok g' w g.n b hbn f2 f3
 ·rcases hb' id c hc with⟨_,q⟩|⟨_,rfl⟩
  ·exact h.own id c q hr
  ·exact .inl f5
 ·rw[zBi]
  split
  ·rename_i e;subst e
   show RepD _ _ _ _
   rw[hv];exact .val _
  ·exact rx (h.rep u)
 ·rcases hb' id c hc with⟨_,q⟩|⟨_,q⟩
  ·exact .inl q
  ·exact .inr q
theorem AbsG.adoptAllF{C:Ctx}{a:Act}{w:World}: ∀(pn:List Fn) (g:Gh) (σ:Sl) (η:List Ob),AbsG C g σ η a w->(∀p∈pn,FnOk p)->(∀p∈pn,FreshF C g w (a.tmps.getD p.d undef) p)->
  (pn.Pairwise fun p q=>∀b c,a.tmps.getD p.d undef=p.v b->a.tmps.getD q.d undef=q.v c->b≠c)->∃bs:List Nat,bs.length=pn.length/\Abs C (adσF pn bs σ) (η++adηF pn bs) a w
 |[],g,σ,η,h,_,_,_=>⟨[],rfl,g,by simpa[adσF,adηF]using h⟩
 |p::r,g,σ,η,h,hok,hf,hp=>by
  obtain⟨hp1,hp2⟩:=List.pairwise_cons.1 hp
  obtain⟨b,hv,f2,f3,f4,f5,f6⟩:=hf p (by simp)
  obtain⟨g',h1,h2,h3,h4⟩:=h.adoptF (hok p (by simp)) hv f2 f3 f4 f5 f6
  have hrest:∀q∈r,FreshF C g' w (a.tmps.getD q.d undef) q:=fun q hq=>by
   obtain⟨c,hc,k2,k3,k4,k5,k6⟩:=hf q (by simp[hq])
   refine⟨c,hc,k2,by rw[h2];exact k3,fun id hid=>?_,k5,k6⟩
   rcases h3 id c hid with h5|h5
   ·exact k4 id h5
   ·exact hp1 q hq b c hv hc h5.symm
  obtain⟨bs,e1,e2⟩:=AbsG.adoptAllF r g' _ _ h1 (fun q hq=>hok q (by simp[hq])) hrest hp2
  refine⟨b::bs,by simp[e1],?_⟩
  simpa[adσF,adηF,List.append_assoc]using e2
theorem zQM{C:Ctx}{Q:Exit->Sl->List Ob->Prop}{σ:Sl}{η:List Ob}{id:Nat}{l:List Oper}(ks:List SegF)(hm:C.P.follows .mixedOrders=true)(hB:zFK l=true)
  (hbar:ks.length=l.length\/zHB l.toArray (l.length-ks.length-1)=true) (hs:zPi C l η 0 l ks σ)
  (h:∀bs:List Nat,bs.length=(pnF ks).length->alex C true l.toArray (l.drop ks.length) (Q .normal) (adσF (pnF ks) bs (zPg l ks σ)) (η++adηF (pnF ks) bs)):awp C (.region id l.toArray true) Q σ η:=by
 intro R hR a w ⟨g,hg⟩
 have hd:Abs C σ η a { w with drawn:=w.drawn+1 }:=⟨g,hg.grow ⟨rfl,rfl,rfl,rfl,rfl,rfl,rfl,qAN _,fun _ _=>rfl,fun _ _ h=>h,fun _ _ h=>.inl h,hg.inv.st⟩⟩
 have hkl:=zJX l ks 0 σ hs
 have hat:=zOO l ks 0 σ hs
 let I:(Nat->Bool)->Act->World->Prop:=fun f a w=>∃g,AbsG C g (pst σ 0 l (ks.map SegF.sv) f) η a w/\(∀(j:Nat) p,ks[j]?=some (.mk p)->f j=true->FreshF C g w (a.tmps.getD p.d undef) p)/\
  (∀(i j:Nat) p q,ks[i]?=some (.mk p)->ks[j]?=some (.mk q)->i≠j->f i=true->f j=true->∀b c,a.tmps.getD p.d undef=p.v b->a.tmps.getD q.d undef=q.v c->b≠c)
 have hlk:∀{j:Nat} {k:SegF},ks[j]?=some k->∃o,l[j]?=some o:=fun hk=>⟨_,qAB (qAW (qAA.1 hk).1 hkl)⟩
 refine wp_region_any hm (zKY (C:=C) (K:=Q .normal) (fun σ' η' a w hk hab=>hR _ _ _ _ _ hk hab) hB ks.length hkl hbar I ?_ ?_ _ _ a _ (by simp) ?_ ?_ (fun i _ hi=>?_) ?_)
 ·intro f a w hf ⟨g,h1,h2,h3⟩
  rw[zL4 l ks 0 σ f (fun i hi=>by rw[qAU];exact hf i hi)]at h1
  obtain⟨bs,e1,e2⟩:=h1.adoptAllF _ _ _ _ (fun p hp=>by
   obtain⟨j,hj⟩:=zJf hp
   obtain⟨o,hlj⟩:=hlk hj
   exact(hat j o _ hlj hj).2.1.1) (fun p hp=>by
   obtain⟨j,hj⟩:=zJf hp
   exact h2 j p hj (hf j (qAA.1 hj).1)) (zLN ks fun i j p q hi hj hne=>h3 i j p q hi hj hne (hf i (qAA.1 hi).1) (hf j (qAA.1 hj).1))
  exact⟨_,_,h bs e1,e2⟩
 ·intro f j o a w hjm hlj hun hcl hdep ⟨g,h1,h2,h3⟩
  obtain⟨k,hk⟩:∃k,ks[j]?=some k:=⟨_,qAB hjm⟩
  have hkk:=hat j o k hlj hk
  rw[qAU]at hkk
  have same:=zGx (σ:=σ) (ss:=ks.map SegF.sv) hB hlj hun hcl hdep
  have hsk:(ks.map SegF.sv)[j]?=some k.sv:=by rw[qAL,hk];rfl
  have next:=zGy (σ:=σ) hB hlj hsk hun hcl
  have stay:∀(i:Nat) p v,ks[i]?=some (.mk p)->i≠j->(a.put o.dst v).tmps.getD p.d undef=a.tmps.getD p.d undef:=by
   intro i p v hi hne
   obtain⟨o',hli⟩:=hlk hi
   have hon:=(hat i _ _ hli hi).2.2.2.2
   rw[qAU]at hon
   have hne2:=zJi hon hlj (fun e=>hne e.symm)
   cases hod:o.dst with
   |none=>rfl
   |some e =>
    have:e≠p.d:=fun h=>hne2 (by rw[hod,h])
    simp[Act.put,Array.getD_eq_getD_getElem?,Array.getElem?_setIfInBounds_ne this]
  have hmk:∀i,(i==j||f i)=true->i≠j->f i=true:=fun i h hne=>by
   have:(i==j)=false:=by simpa using hne
   simpa[this]using h
  cases k with
  |y s =>
   left
   obtain⟨hdst,hw,hy⟩:=hkk
   refine⟨hw.wanted (g:=g) (w:=w) fun t q b hgd ht=>by rw[<-same t (zET hgd ht)];exact h1.rep t,?_⟩
   have hy':Ylds C.P η (pst σ 0 l (ks.map SegF.sv) f) o s:=hy.congr fun x hx=>by
    cases x with
    |tmp t=>exact same t (zBh hx)
    |_=>rfl
   have fin:∀v g' w',Grow g w g' w'->RepS g' w' v s->I (fun i=>i==j||f i) (a.put o.dst v) w':=fun v g' w' hgr hr=>by
    have hab:=(h1.grow hgr).put hdst hr
    refine⟨g',hab.get_eq fun t=>.inl (next t).symm,fun i p hi hfi=>?_,fun i i2 p q hi hi2 hne hf1 hf2=>?_⟩
    ·have hne:i≠j:=fun e=>by subst e;rw[hk]at hi;cases hi
     rw[stay i p v hi hne]
     exact(h2 i p hi (hmk i hfi hne)).grow hgr
    ·have hne1:i≠j:=fun e=>by subst e;rw[hk]at hi;cases hi
     have hne2:i2≠j:=fun e=>by subst e;rw[hk]at hi2;cases hi2
     rw[stay i p v hi hne1,stay i2 q v hi2 hne2]
     exact h3 i i2 p q hi hi2 hne (hmk i hf1 hne1) (hmk i2 hf2 hne2)
   unfold Oper.wp
   rcases hy' g w a h1.inv (fun x _=>h1.eval x)with⟨v,g',w',hr,hg,hs'⟩|⟨fn,args,hr,hc⟩
   ·rw[hr];exact fin v g' w' hg hs'
   ·rw[hr,Oper.upon_enter]
    refine hc.mono fun e w' ⟨v,g',he,hg,hs'⟩=>?_
    subst he
    exact fin v g' w' hg hs'
  |mk p =>
   left
   obtain⟨hdst,q1,q2,q3,q4⟩:=hkk
   refine⟨by unfold Region.wanted;rw[q2],?_⟩
   have q1':MkF C.P o (pst σ 0 l (ks.map SegF.sv) f) p:=q1.congr fun x hx=>by
    cases x with
    |tmp t=>exact same t (zBh hx)
    |_=>rfl
   have hrun:=q1'.2 a.eval g w fun x _=>h1.eval x
   have hgr:Grow g w g (w.alloc p.ob):=⟨rfl,rfl,rfl,rfl,rfl,rfl,rfl,by simp,fun k hk=>Below.heap_alloc w _ k hk,fun _ _ h=>h,fun _ _ h=>.inl h,fun b o hb=>qAW (h1.inv.st b o hb) (by simp)⟩
   unfold Oper.wp
   rw[hrun]
   have hab:=(h1.grow hgr).put (d:=o.dst) (v:=p.v w.heap.size) (s:=.top) hdst trivial
   have hnew:(a.put o.dst (p.v w.heap.size)).tmps.getD p.d undef=p.v w.heap.size:=by
    rw[q3]
    have hlt:p.d<a.tmps.size:=by rw[q3]at hdst;rw[h1.size];simpa[zDz,Nat.blt_eq]using hdst
    simp[Act.put,hlt]
   have hold:∀(i:Nat) q,ks[i]?=some (.mk q)->f i=true->∀c,a.tmps.getD q.d undef=q.v c->c<w.heap.size:=fun i q hi hfi c hc=>by
    obtain⟨c',e1,_,_,_,_,f6⟩:=h2 i q hi hfi
    obtain⟨oq,hlq⟩:=hlk hi
    have:c=c':=(hat i oq _ hlq hi).2.1.1.inj (hc.symm.trans e1)
    omega
   have vinj:∀{b c:Nat},p.v b=p.v c->b=c:=fun e1=>q1.1.inj e1
   refine⟨g,hab.get_eq fun t=>.inl (next t).symm,fun i q hi hfi=>?_,fun i i2 q q' hi hi2 hne hf1 hf2 b c hb hc=>?_⟩
   ·by_cases hij:i=j
    ·subst hij
     rw[hk]at hi;injection hi with hi;injection hi with hi;subst hi
     rw[hnew]
     exact⟨w.heap.size,rfl,_root_.Go.heap_alloc_new w _,fun o ho=>absurd (h1.inv.st _ o ho) (by omega),fun id hid=>absurd (h1.inv.lt id _ hid) (by omega),h1.wsize,by simp⟩
    ·rw[stay i q _ hi hij]
     exact(h2 i q hi (hmk i hfi hij)).grow hgr
   ·by_cases hij:i=j
    ·have hij2:i2≠j:=fun e=>hne (hij.trans e.symm)
     subst hij
     rw[hk]at hi;injection hi with hi;injection hi with hi;subst hi
     rw[hnew]at hb
     rw[stay i2 q' _ hi2 hij2]at hc
     have h5:=hold i2 q' hi2 (hmk i2 hf2 hij2) c hc
     have h6:=vinj hb
     omega
    ·by_cases hij2:i2=j
     ·subst hij2
      rw[hk]at hi2;injection hi2 with hi2;injection hi2 with hi2;subst hi2
      rw[hnew]at hc
      rw[stay i q _ hi hij]at hb
      have h5:=hold i q hi (hmk i hf1 hij) b hb
      have h6:=vinj hc
      omega
     ·rw[stay i q _ hi hij]at hb
      rw[stay i2 q' _ hi2 hij2]at hc
      exact h3 i i2 q q' hi hi2 hne (hmk i hf1 hij) (hmk i2 hf2 hij2) b c hb hc
 ·refine qAw (qA6 _ _) (by simp)
 ·intro j o hj hl
  have hjl:j<l.length:=(qAA.1 hj).1
  rw[qAJ,qAI (by simpa using hjl)]at hl
  simp at hl
 ·rw[qAJ,qAI (by simpa using hi)]
  simp
 ·obtain⟨g',hg'⟩:=hd
  have hf0:∀i,i<l.length->(Array.replicate l.toArray.size false).getD i true=false:=fun i hi=>by
   rw[qAJ,qAI (by simpa using hi)];simp
  refine⟨g',hg'.get_eq fun t=>.inl ?_,fun j p hj hf=>?_,fun i j p q hi _ _ hf _=>?_⟩
  ·rw[zCN t l (ks.map SegF.sv) σ σ 0 _ (fun _=>false) rfl (fun i o hi hne=>?_),zDP]
   rw[qAU,hf0 i (qAA.1 hi).1]at hne
   exact absurd rfl hne
  ·have:=hf0 j (by have:=(qAA.1 hj).1;omega)
   simp only[this]at hf;cases hf
  ·have:=hf0 i (by have:=(qAA.1 hi).1;omega)
   simp only[this]at hf;cases hf
def zZk(d:Nat)(e:TypeId)(n:Nat)(zd:D)(us:Array Value): Fn:=⟨d,fun b=>.slice (some ⟨b,0,none⟩) n n,.cells us e (0,0),fun b=>.bx (some b) (some e) ((zCH (List.replicate n zd)).map .d)⟩
def zXx(d:Nat): Fn:=⟨d,fun b=>.map (some b),.map #[] 0,fun b=>.map (some b) []⟩
theorem zUz(d:Nat): FnOk (zXx d) :=
 ⟨fun h=>by injection h with h;injection h,fun g w id b hb hh hst=>zUV.2 ⟨b, #[],hb,hh,rfl,fun j e p he=>by simp at he,hst,fun _ h=>(qBB h).symm⟩⟩
theorem zUf{P:Program}{σ:Sl}{d:Nat}{t ty:TypeId}{pos:String}{after:Array Edge}{gd:Option (Nat×Bool)}: MkF P ⟨some d,.makeMap t none,ty,pos,after,gd⟩ σ (zXx d) :=
 ⟨zUz d,fun _ _ _ _=>rfl⟩
theorem zUe{P:Program}{t e:TypeId}{sz by' n:Nat}{zd:D}(he:zBd P t=some e)(hs:zA2 P t=some sz)(hz:zIk P e=some zd)(hzl:zd.flat.length=sz)(hp:Nat.blt 0 sz=true)(hb:zCZ P t=some by')(hn:n*by'<=281474976710656/\n<=281474976710656):
  ∃us,∀(d:Nat) (σ:Sl) (x y:Operand) (k k':IntKind) (ty:TypeId) (pos:String) (after:Array Edge) (gd:Option (Nat×Bool)),oval σ x=.d (.val (.int k (n:Int)))->oval σ y=.d (.val (.int k' (n:Int)))->MkF P ⟨some d,.makeSlice t x y,ty,pos,after,gd⟩ σ (zZk d e n zd us):=by
 have hp:0<sz:=by simpa using hp
 obtain⟨e',i,hu,hi,hsz⟩:=zBH hs
 have:e'=e:=by have:=zBx he;rw[hu]at this;injection this with this;injection this
 subst this
 have hby:i.bytes=by':=by
  obtain⟨e2,i2,h1,h2,h3⟩:=zDE hb
  rw[hu]at h1;injection h1 with h1;injection h1 with h1;subst h1
  rw[hi]at h2;injection h2 with h2;subst h2;exact h3
 obtain⟨z,hzz,hzs,hz1,hzr⟩:=zGp hi hz
 have hg0:∀(j:Nat) (u:Value),(madeCells z.cells (n*i.size))[j]?=some u->j<n*sz/\z.cells[j%sz]?=some u:=by
  intro j u hu
  unfold madeCells at hu
  rw[hsz]at hu
  obtain⟨hj,hu⟩:=qAr.1 hu
  simp at hj
  simp only[Array.getElem_map,Array.getElem_range]at hu
  have hm:j%sz<z.cells.size:=by rw[hzs,hzl];exact Nat.mod_lt _ hp
  refine⟨hj,?_⟩
  rw[hzs,hzl]at hu
  rw[getElem!_pos z.cells (j%sz) hm]at hu
  rw[qAI hm,hu]
 refine⟨madeCells z.cells (n*i.size),fun d σ x y k k' ty pos after gd hx hy=>⟨⟨fun h=>?_,fun g w id b hbk hh hst=>?_⟩,fun ev g w ho=>?_⟩⟩
 ·injection h with h;injection h with h;injection h
 ·refine⟨b,e',_,hbk,hh,?_,fun u hm=>?_,fun j u s hu' hs'=>?_,hst,fun _ h=>(qBB h).symm,fun _ h=>(qBB h).symm⟩
  ·rw[size_madeCells,qAC,zBu (sz:=sz) (fun x hx=>by rw[List.eq_of_mem_replicate hx];exact hzl),qAm,hsz]
  ·obtain⟨j,hj⟩:=Array.getElem?_of_mem hm
   exact hz1 u (qA7 (hg0 j u hj).2)
  ·obtain⟨h1,h2⟩:=hg0 j u hu'
   rw[qAL,zMl n zd j (by rw[hzl];exact hp) (by rw[hzl];exact h1),hzl]at hs'
   cases hq:zd.flat[j%sz]? with
   |none=>rw[hq]at hs';cases hs'
   |some d'=>rw[hq]at hs';injection hs' with hs';subst hs';exact hzr g.St w _ u d' h2 hq
 ·have hxr:=ho x (by simp[Op.operands]);rw[hx]at hxr
  have hyr:=ho y (by simp[Op.operands]);rw[hy]at hyr
  have hrun:=run_make (P:=P) w t e' i z hu hi hzz k k' n n (by omega) (by omega) (by rw[hby,Int.mul_comm,<-Int.natCast_mul];exact Int.ofNat_le.2 hn.1) (by omega)
  simp only[qAj]at hrun
  simp only[execOp,Sem.run_bind,RepD.val_eq hxr,RepD.val_eq hyr,hrun];rfl
section
variable {P:Program}{η:List Ob}{σ:Sl}{dst:Option Nat}{ty:TypeId}{pos:String}{after:Array Edge}{gd:Option (Nat×Bool)}{t:TypeId}
theorem zVR{ps:List (Nat×Operand)}{ds:List (Nat×D)}{pl:List (Nat×Nat)}{zs:List Value}{cs:List D}(hpl:zCr P t=some pl)(hz:zB5 P t=some zs)(hp:zJg η σ ps ds)(hf:zMm pl (zs.map .val) (ds.map fun p=>(p.1,p.2.flat))=some cs):
  Ylds P η σ ⟨dst,.build t ps.toArray,ty,pos,after,gd⟩ (.d (.agg cs)):=by
 refine Ylds.same fun g w a hi h=>?_
 obtain⟨e1,e2⟩:=zIN (a:=a) hi ps ds (fun p hp=>h p.2 (by
  simp only[Op.operands,List.mem_toArray,qBO];exact⟨p,hp,rfl⟩)) hp
 obtain⟨cells',r1,r2,r3⟩:=zJ6 (R:=fun u d=>RepD g.St w u d/\u.oneCell'=true) (cs:=zs.map .val) hpl hz e1 e2 (by simp) (fun i u s hu hs=>by
  rw[qAL,hu]at hs
  simp at hs;subst hs
  exact⟨.val _,(zGo hz).1 u (qAH hu)⟩) hf
 have hall:∀(j:Nat) u,cells'[j]?=some u->u.oneCell'=true:=fun j u hu=>by
  have hj:j<cs.length:=by rw[<-r2];exact(qAr.1 hu).1
  exact(r3 j u _ hu (qAB hj)).2
 refine⟨.agg cells',?_,?_⟩
 ·have:=run_build (P:=P) w t (ps.map fun p=>(p.1,a.eval p.2)).toArray cells' (by simpa using r1)
  simp only[execOp,Sem.run_bind,qA9,this,Result.andThen_ok,Sem.run_pure]
 ·have:=RepD.agg (St:=g.St) (w:=w) cells'.toList cs (by simpa using r2) (fun u hu=>by
   obtain⟨j,hj,rfl⟩:=qBi.1 hu
   exact hall j _ (by rw[Array.getElem_toList];exact qAI _)) (fun j u d hu hd=>(r3 j u d (by simpa using hu) hd).1)
  show RepD _ _ _ _
  simpa using this
end
theorem Abs.cellrowA{C:Ctx}{σ:Sl}{η:List Ob}{a:Act}{w:World}(id q j n cap sz b:Nat){e:TypeId}{cs:List SV}{xs:List D}{kq:Option Nat}{eq:Option TypeId}{cq:List SV}(ho:η[id]?=some (.bx (some b) (some e) cs))(hq:η[q]?=some (.bx kq eq cq))(hne:Nat.beq q id=false)(hc:cq[j]?=some (.d (.val (.slice (some ⟨b,0,none⟩) n cap))))
  (hx:(zCH xs).map SV.d=cs) (hxl:xs.length=cap) (hm:cap<=maxLen) (hf:∀d∈xs,d.flat.length=sz) (h:Abs C σ η a w) :
  Abs C (zFP id σ) (((zFI id η).set id (.buf true e sz xs)).set q (.bx kq eq ((cq.map (SV.kill id)).set j (.buf id n)))) a w:=by
 obtain⟨g,ha⟩:=h
 have hqi:q≠id:=fun c=>by rw[c]at hne;simp at hne
 have hidl:id<η.length:=(qAA.1 ho).1
 have hql:q<η.length:=(qAA.1 hq).1
 obtain⟨b',e',us,o1,o2,o3,o4,o5,o6,o7,o8⟩:=ha.inv.ob id _ ho
 have he:e=e':=o8 e rfl
 subst he
 have hbb:b=b':=o7 b rfl
 subst hbb
 let g':Gh:={ g with cap:=upd g.cap id cap,sz:=upd g.sz id sz }
 have rk:∀{v:Value} {s:SV},RepS g w v s->RepS g' w v (s.kill id):=fun r=>RepS.other (g:=g) (g':=g') (id:=id) (Keep.refl g.St w) (fun i hi=>⟨rfl,by simp[g',upd,hi],by simp[g',upd,hi]⟩) rfl r
 have hfl:(zCH xs).length=cap*sz:=by rw[zBu hf,hxl]
 refine⟨g',ha.defers,ha.size,⟨by rw[qAa,qAa,zDX];exact ha.inv.n,ha.inv.lt,ha.inv.dead,ha.inv.inj,fun i ob hi=>?_,ha.inv.st,ha.inv.gl⟩,ha.os,ha.tape,ha.output,ha.wsize,ha.heap,ha.keep,ha.new,ha.own,fun t=>by rw[zFX];exact rk (ha.rep t)⟩
 have box:∀{k:Option Nat} {et:Option TypeId} {cs:List SV} {i:Nat},ObOk g w i (.bx k et cs)->ObOk g' w i (.bx k et (cs.map (SV.kill id))):=by
  intro k et cs i hob
  obtain⟨b,e,us,h1,h2,h3,h4,h5,h6,h7⟩:=hob
  refine⟨b,e,us,h1,h2,by rw[qAC];exact h3,h4,fun j u s hu hs=>?_,h6,h7⟩
  rw[qAL]at hs
  cases hcs:cs[j]? with
  |none=>rw[hcs]at hs;cases hs
  |some s0 =>
   rw[hcs]at hs;injection hs with hs;subst hs
   exact rk (h5 j u s0 hu hcs)
 rw[qAT]at hi
 split at hi
 ·rename_i hcq;subst hcq
  rw[if_pos (by rw[qAa,zDX];exact hql)]at hi
  injection hi with hi;subst hi
  obtain⟨b2,e2,us2,h1,h2,h3,h4,h5,h6,h7⟩:=ha.inv.ob q _ hq
  refine⟨b2,e2,us2,h1,h2,by rw[qAa,qAC];exact h3,h4,fun jj u s hu hs=>?_,h6,h7⟩
  rw[qAT,qAC]at hs
  split at hs
  ·rename_i hjj;subst hjj
   have hjl:j<cq.length:=(qAA.1 hc).1
   rw[if_pos hjl]at hs
   injection hs with hs;subst hs
   have hr:=h5 j u _ hu hc
   have hu2:u=.slice (some ⟨b,0,none⟩) n cap:=RepD.val_eq hr
   refine⟨by show id<g.n;rw[ha.inv.n];exact hidl,?_⟩
   rw[hu2]
   simp[g',upd,o1]
  ·rw[qAL]at hs
   cases hcs:cq[jj]? with
   |none=>rw[hcs]at hs;cases hs
   |some s0 =>
    rw[hcs]at hs;injection hs with hs;subst hs
    exact rk (h5 jj u s0 hu hcs)
 ·rw[qAT]at hi
  split at hi
  ·rename_i hc;subst hc
   rw[if_pos (by rw[zDX];exact hidl)]at hi
   injection hi with hi;subst hi
   have hcl:cs.length=cap*sz:=by rw[<-hx,qAC,hfl]
   refine⟨by simp[g',upd],hf,by simp only[g',upd,if_true];exact hm,by simp only[g',upd,if_true];omega,.inr ⟨b,us,o1,o2,by simp only[g',upd,if_true];omega,fun j u hj hu=>o4 u (qA7 hu),fun j u d hu hd=>?_,fun o=>⟨fun h=>absurd h (o6 o),fun h=>by cases h.1⟩⟩⟩
   refine o5 j u (.d d) hu ?_
   rw[<-hx,qAL,hd];rfl
  ·rename_i hc
   rw[zGb]at hi
   cases hη:η[i]? with
   |none=>rw[hη]at hi;cases hi
   |some o0 =>
    rw[hη]at hi
    injection hi with hi
    subst hi
    have hob:=ha.inv.ob i _ hη
    cases o0 with
    |bx k et cs=>exact box hob
    |buf mu e sz xs =>
     have hne:¬i=id:=fun c=>hc c.symm
     obtain⟨h1,h2,h3,h4,h5⟩:=hob
     exact⟨by simp only[g',upd,if_neg hne];exact h1,h2,by simp only[g',upd,if_neg hne];exact h3,by simp only[g',upd,if_neg hne];exact h4,by simp only[g',upd,if_neg hne];exact h5⟩
    |iter s pos=>exact hob
    |mapq q k l=>exact hob
    |miter m since seen st =>
     simp only[Ob.kill]
     split
     ·trivial
     ·exact hob
    |gone=>trivial
theorem zMx{C:Ctx}{σ:Sl}{η:List Ob}{Q:Exit->Sl->List Ob->Prop}{c:Code}(id q j n cap sz b:Nat){e:TypeId}{cs:List SV}{xs:List D}{kq:Option Nat}{eq:Option TypeId}{cq:List SV}(ho:η[id]?=some (.bx (some b) (some e) cs))(hq:η[q]?=some (.bx kq eq cq))(hne:Nat.beq q id=false)(hc:cq[j]?=some (.d (.val (.slice (some ⟨b,0,none⟩) n cap))))
  (hx:(zCH xs).map SV.d=cs) (hxl:xs.length=cap) (hm:cap<=maxLen) (hf:∀d∈xs,d.flat.length=sz)
  (h:awp C c Q (zFP id σ) (((zFI id η).set id (.buf true e sz xs)).set q (.bx kq eq ((cq.map (SV.kill id)).set j (.buf id n))))):awp C c Q σ η:=by
 intro R hR a w hab
 exact h R hR a w (hab.cellrowA id q j n cap sz b ho hq hne hc hx hxl hm hf)
theorem zQO{C:Ctx}{σ:Sl}{η:List Ob}{Q:Exit->Sl->List Ob->Prop}{c:Code}(id q j b:Nat){mq:Bool}{l:List (Value×D)}{kq:Option Nat}{eq:Option TypeId}{cq:List SV}(ho:η[id]?=some (.mapq mq (some b) l))(hq:η[q]?=some (.bx kq eq cq))(hc:cq[j]?=some (.d (.val (.map (some b)))))
  (h:awp C c Q σ (η.set q (.bx kq eq (cq.set j (.mp id))))):awp C c Q σ η:=by
 intro R hR a w ⟨g,ha⟩
 refine h R hR a w ⟨g,{ ha with inv:={ ha.inv with n:=by simpa using ha.inv.n,ob:=fun i o hi=>?_ } }⟩
 have hql:q<η.length:=(qAA.1 hq).1
 have hidl:id<η.length:=(qAA.1 ho).1
 obtain⟨b',es,ck,m1,m2,m3,m4,m5,m6,m7⟩:=ha.inv.ob id _ ho
 have hbb:b=b':=m6 b rfl
 subst hbb
 rw[qAT]at hi
 split at hi
 ·rename_i e;subst e
  try rw[if_pos hql]at hi
  injection hi with hi;subst hi
  obtain⟨b2,e',us,h1,h2,h3,h4,h5,h6,h7⟩:=ha.inv.ob q _ hq
  refine⟨b2,e',us,h1,h2,by simpa using h3,h4,fun m u s' hu hs=>?_,h6,h7⟩
  rw[qAT]at hs
  split at hs
  ·rename_i hm;subst hm
   have hjl:=(qAA.1 hc).1
   try rw[if_pos hjl]at hs
   injection hs with hs;subst hs
   exact⟨by rw[ha.inv.n];exact hidl,b,m1,RepD.val_eq (h5 j u _ hu hc)⟩
  ·exact h5 m u s' hu hs
 ·exact ha.inv.ob i o hi
section
variable {P:Program}{η:List Ob}{σ:Sl}{dst:Option Nat}{ty:TypeId}{pos:String}{after:Array Edge}{gd:Option (Nat×Bool)}{t yt:TypeId}{x y:Operand}
theorem zV6{a b:List UInt8}(hx:oval σ x=.d (str a))(hy:oval σ y=.d (str b)): Ylds P η σ ⟨dst,.binOp .lss t x y yt,ty,pos,after,gd⟩ (.d (.val (.bool (Op.bytesLess a b)))) :=
 zFN hx hy fun w=>by
  have hg:(eqGuard .lss t x y (.string ⟨a.toArray⟩) (.string ⟨b.toArray⟩)).run P w=.ok () w:=by first|rfl|simp[eqGuard]|simp[go_sem]
  simp only[hg,binOp_string_lss,Sem.run_bind,Sem.run_pure,Result.andThen_ok,ByteArray.toList_mk]
theorem zN0{q len:Nat}{n v:Int}{k:IntKind}{tab:List Int}(hG:∀(St:Stab) (w:World),Glob St w->(∀o,St q o)/\∃e,w.heap[q]?=some (.cells (tab.map fun z=>Value.int .i64 z).toArray e (0,0)))(hy:oval σ y=.d (.val (.int k n)))(hs:zQP P t=some (len,1))(h:0<=n/\n<(len:Int))(hv:tab[n.toNat]?=some v):
  Ylds P η σ ⟨dst,.indexAddr t (.global q) y,ty,pos,after,gd⟩ (.rptr [.val (.int .i64 v)]):=by
 obtain⟨e,i,hu,hinf,hsz⟩:=zKs hs
 refine Ylds.same fun g w a hi hr=>?_
 have hyr:=hr y (by simp[Op.operands])
 rw[hy]at hyr
 obtain⟨hst,e2,hh⟩:=hG g.St w hi.gl
 refine⟨.pointer (some ⟨q,n.toNat,none⟩),?_,⟨⟨q,n.toNat,none⟩,[.int .i64 v],rfl,rfl,by simp;rfl,fun j u hu'=>?_,fun j u d hu' hd=>?_⟩⟩
 ·have e1:a.eval (.global q)=.pointer (some ⟨q,0,none⟩):=rfl
  simp[execOp,e1,RepD.val_eq hyr,Instr.indexAt,asIntOf,Instr.sureAddr,run_underlying hu,h.1,h.2,sizeOf,typeInfo,hinf,hsz,Addr.add_lit]
 ·match j,hu' with
  |0,hu' =>
   injection hu' with hu';subst hu'
   refine⟨hst _,?_⟩
   show w.cell? ⟨q,n.toNat+0,none⟩=_
   rw[cell_of_row w q _ _ e2 (0,0) hh,qA2]
   simp[hv]
  |j+1,hu'=>simp at hu'
 ·match j,hu',hd with
  |0,hu',hd=>injection hu' with hu';injection hd with hd;subst hu';subst hd;exact .val _
  |j+1,hu',hd=>simp at hu'
end
section
variable {P:Program}{η:List Ob}{σ:Sl}{dst:Option Nat}{ty:TypeId}{pos:String}{after:Array Edge}{gd:Option (Nat×Bool)}{t:TypeId}{x y:Operand}
theorem zaB{sz e n:Nat}{xs:List Operand}{ds:List D}(he:zBd P t=some e)(hs:zA2 P t=some sz)(hz:(zB5 P e).isSome=true)(hp:Nat.blt 0 sz=true)(hb:Nat.ble (n*sz) 16777216=true){parts:Array (Nat×Operand)}(hparts:parts=((xs.zipIdx 0).map fun x=>(x.2,x.1)).toArray)
  (hl:xs.length=n) (hc:CoL η σ xs ds) (hf:∀d∈ds,d.flat.length=sz) (hok:ds.all okc=true):Ylds P η σ ⟨dst,.buildSlice t n parts,ty,pos,after,gd⟩ (.d (.tsl ds)):=by
 have hp:0<sz:=by simpa using hp
 have hb:=qAM hb
 subst hparts
 intro g w a hinv hop
 refine .inl ?_
 obtain⟨e',i,hu,hi,hsz⟩:=zBH hs
 have:e'=e:=by have:=zBx he;rw[hu]at this;injection this with this;injection this
 subst this
 have hrep:=CoL.rep (a:=a) hinv xs ds (fun x hx=>hop x (by
  simp only[Op.operands,qBt,List.mem_toArray,qBO]
  obtain⟨j,hj,rfl⟩:=qBi.1 hx
  exact⟨(xs[j],j),by rw[qBi];exact⟨j,by simpa using hj,by simp⟩,rfl⟩)) hc
 have hlen:=hrep.len
 rw[qAC]at hlen
 obtain⟨i1,i2⟩:=RepDs.cells _ ds hrep hf hok
 have hfl:=zGH (sz:=sz) (xs.map a.eval) (fun v hv=>(i1 v hv).1)
 rw[qAC,hl]at hfl
 let us:=((xs.map a.eval).flatMap fun v=>v.cells.toList).toArray
 have hus:us.size=n*sz:=by simpa[us]using hfl
 have hpe:((((xs.zipIdx 0).map fun x=>(x.2,x.1)).toArray).map fun (p:Nat×Operand)=>(p.1,a.eval p.2)).toList=(((xs.map a.eval).zipIdx 0).map fun x=>(x.2,x.1)):=by
  simp[List.zipIdx_map,List.map_map,Function.comp_def]
 have hrun:(Instr.buildSlice t n ((((xs.zipIdx 0).map fun x=>(x.2,x.1)).toArray).map fun (p:Nat×Operand)=>(p.1,a.eval p.2))).run P w=.ok (.slice (some ⟨w.heap.size,0,none⟩) n n) (w.alloc (.cells us e')):=by
  have hzz:∃z,i.zero=some z:=by
   unfold zB5 at hz;rw[hi]at hz
   cases hq:i.zero with
   |none=>simp[hq]at hz
   |some z=>exact⟨z,rfl⟩
  obtain⟨z,hzz⟩:=hzz
  by_cases h0:n=0
  ·subst h0
   have hx:xs=[]:=qAo hl
   subst hx
   simp[Instr.buildSlice,run_underlying hu,sizeOf,typeInfo,hi,newRow,Instr.fill,us,Array.range_zero']
  ·have hne:¬n*i.size=0:=by rw[hsz];intro h;rcases Nat.mul_eq_zero.1 h with h|h <;> omega
   have hfw:=Great.fill_whole hp (xs.map a.eval) ((Array.range (n*i.size)).map (z.cells[· % z.cells.size]!)) (fun v hv=>(i1 v hv).1) (by simp[hl,hsz])
   exact run_buildSlice w t e' n _ us i z hu hi hzz (by rw[hsz];omega) hne (by rw[hpe];rw[<-hsz]at hfw;exact hfw)
 let g':Gh:={ g with St:=fun b o=>g.St b o\/(b=w.heap.size/\o<n*sz) }
 have hgr:Grow g w g' (w.alloc (.cells us e')):=⟨rfl,rfl,rfl,rfl,rfl,rfl,rfl,by simp,fun k hk=>Below.heap_alloc w _ k hk,fun _ _ h=>.inl h,fun b o h=>h.imp_right fun h=>by omega,fun b o h=>by
  rcases h with h|h
  ·exact qAW (hinv.st b o h) (by simp)
  ·rw[h.1];simp⟩
 refine⟨_,g',_,by simp only[execOp,Sem.run_bind];rw[hrun];rfl,hgr,?_⟩
 have hfds:(zCH ds).length=n*sz:=by rw[zBu hf,<-hlen,hl]
 have hn63:n<=maxLen:=by simp only[maxLen];have:n*1<=n*sz:=Nat.mul_le_mul_left _ hp;omega
 refine RepD.tsl _ n ds ?_
 refine RepD.slice _ n n sz ds us.toList (by omega) (qAN _) hn63 hf (by rw[qAS,hus,hfds]) (fun u hu=>?_) (fun h0=>⟨_,rfl,fun j u hj=>⟨.inr ⟨rfl,?_⟩,?_⟩⟩) (fun j u d hu hd=>?_)
 ·simp only[us,List.mem_flatMap]at hu
  obtain⟨v,hv,hm⟩:=hu
  exact(i1 v hv).2 u (by simpa using hm)
 ·have:=(qAA.1 hj).1
  rw[qAS,hus]at this;simpa using this
 ·rw[Addr.add_lit,qAU,cell_of_row _ _ j us e' (0,0) (_root_.Go.heap_alloc_new w _)]
  rw[<-qAz];exact hj
 ·exact(i2 j u d (by simpa[us]using hu) hd).keep (hgr.keep hinv.st)
theorem zKH{sz e:Nat}(he:zBd P t=some e)(hs:zA2 P t=some sz)(hz:(zB5 P e).isSome=true)(hp:Nat.blt 0 sz=true): Ylds P η σ ⟨dst,.buildSlice t 0 #[],ty,pos,after,gd⟩ (.d (.tsl [])) :=
 zaB (xs:=[]) he hs hz hp (by simp) (by rfl) rfl zAM (by simp) rfl
theorem zYQ{sz:Nat}(hx:oval σ x=.d (.tsl []))(hy:Co η (oval σ y) (.slice []))(hs:zA2 P t=some sz):
  Ylds P η σ ⟨dst,.call ⟨.builtin .append, #[x,y], #[t,t]⟩,ty,pos,after,gd⟩ (.d (.slice [])):=by
 obtain⟨e',i,hu,hi',hsz⟩:=zBH hs
 refine Ylds.same fun g w a hi h=>?_
 have hxr:=h x (by simp[Op.operands,Call.operands]);rw[hx]at hxr
 obtain⟨sa,hxv,hxr⟩:∃sa,a.eval x=.slice sa 0 0/\RepD g.St w (.slice sa 0 0) (.slice []):=by
  change RepD _ _ _ _ at hxr
  generalize a.eval x=v at hxr
  cases hxr with
  |tsl sa n xs h =>
   have:n=([]:List D).length:=by cases h;assumption
   subst this;exact⟨sa,rfl,h⟩
 have hyr:=(hy.rep hi (h y (by simp[Op.operands,Call.operands]))).open_slice (sz:=i.size) (by simp)
 obtain⟨ya,yc,news,hyv,_,_,hnl,hn1,hncell,hnrep⟩:=hyr
 refine⟨.slice sa 0 0,?_,hxr⟩
 have hrun:(Builtin.append_ #[t,t] ty #[.slice sa 0 0,.slice ya 0 yc]).run P w=.ok (.slice sa 0 0) w:=by
  cases sa <;> cases ya <;> simp[Builtin.append_,run_underlying hu,sizeOf,typeInfo,hi',Builtin.lenOf,Builtin.firstCells,loadCells,loadCellsFrom,storeCells]
 simp only[execOp,resolve,invoke,builtin,Sem.run_bind,Sem.run_pure,Result.andThen_ok,qA9,qAs,qBk,hxv,hyv]
 rw[show ([]:List D).length=0 from rfl,hrun];rfl
theorem zLl{e sz by':Nat}{ys:List D}(hx:oval σ x=.d (.tsl []))(hy:Co η (oval σ y) (.slice ys))
  (he:zBd P t=some e) (hs:zA2 P t=some sz) (hz:zC3 P e=some sz) (hb:zCZ P t=some by') (hf:∀d∈ys,d.flat.length=sz) (hlen:ys.length*by'<=140737488355328/\ys.length<=140737488355328) :
  Ylds P η σ ⟨dst,.call ⟨.builtin .append, #[x,y], #[t,t]⟩,ty,pos,after,gd⟩ (.d (.slice ys)):=by
 cases ys with
 |nil=>exact zYQ hx hy hs
 |cons y0 r =>
  have:=zaC (P:=P) (dst:=dst) (ty:=ty) (pos:=pos) (after:=after) (gd:=gd) hx hy (by simp) he hs hz hb (by simp) hf (by simpa using hlen)
  simpa using this
end
section
variable {C:Ctx}{ops:Array Oper}{rest:List Oper}{K:Sl->List Ob->Prop}{σ:Sl}{η:List Ob}{d:Nat}{ty:TypeId}{pos:String}{after:Array Edge}{gd:Option (Nat×Bool)}{t:TypeId}{x y:Operand}
theorem zZ5{e sz by':Nat}{xs ys:List D}(hx:oval σ x=.d (.tsl xs))(hy:Co η (oval σ y) (.slice ys))(h0:Nat.blt 0 ys.length=true)
  (he:zBd C.P t=some e) (hs:zA2 C.P t=some sz) (hz:zC3 C.P e=some sz) (hb:zCZ C.P t=some by') (hfx:∀d∈xs,d.flat.length=sz) (hf:∀d∈ys,d.flat.length=sz) (hlen:(xs.length+ys.length)*by'<=140737488355328/\xs.length+ys.length<=140737488355328) (hd:Nat.blt d C.N=true) (hro:Nat.ble C.ro η.length=true)
  (hK:alex C false ops rest K ((d,.buf η.length (xs.length+ys.length))::σ) (η++[.buf false e sz (xs++ys)])) :
  zBE C false ops ⟨some d,.call ⟨.builtin .append, #[x,y], #[t,t]⟩,ty,pos,after,gd⟩ rest K σ η:=by
 have h0:0<ys.length:=by simpa using h0
 obtain⟨e',i,hu,hi',hsz⟩:=zBH hs
 have:e'=e:=by have:=zBx he;rw[hu]at this;injection this with this;injection this
 subst this
 have hby:i.bytes=by':=by
  obtain⟨e2,i2,h1,h2,h3⟩:=zDE hb
  rw[hu]at h1;injection h1 with h1;injection h1 with h1;subst h1
  rw[hi']at h2;injection h2 with h2;subst h2;exact h3
 obtain⟨zv,hzz,hzs⟩:=zFQ hi' hz
 refine zKW (fun g a w ha=>?_) hK
 have hi:=ha.inv
 have hxr:=ha.eval x;rw[hx]at hxr
 obtain⟨sa,hxv,hxr⟩:∃sa,a.eval x=.slice sa xs.length xs.length/\RepD g.St w (.slice sa xs.length xs.length) (.slice xs):=by
  change RepD _ _ _ _ at hxr
  generalize a.eval x=v at hxr
  cases hxr with
  |tsl sa n xs h =>
   have:n=xs.length:=by cases h;assumption
   subst this;exact⟨sa,rfl,h⟩
 obtain⟨sa',cap',olds,hv',_,_,hol,ho1,hocell,horep⟩:=hxr.open_slice hfx
 injection hv' with hv1 hv2 hv3;subst hv1;subst hv3
 have hyr:=(hy.rep hi (ha.eval y)).open_slice hf
 obtain⟨ya,yc,news,hyv,_,_,hnl,hn1,hncell,hnrep⟩:=hyr
 obtain⟨ad,rfl,hnc⟩:=hncell h0
 have hsrc:Src C.P i.size t (.slice (some ad) ys.length yc) ys.length news w:=Src.ofSlice w hu ad ys.length yc news (by rw[hnl,hsz]) (fun j u hj=>(hnc j u hj).2) hn1
 have hold:(Builtin.firstCells i.size xs.length (.slice sa xs.length xs.length)).run C.P w.drew=.ok olds.toArray w.drew:=by
  rcases Nat.eq_zero_or_pos xs.length with hz0|hz0
  ·have hon:olds=[]:=qAo (by rw[hol,hz0];simp)
   rw[hz0,hon]
   cases sa with
   |none=>exact run_firstCells_none w.drew i.size 0 0 0
   |some b=>exact run_firstCells_some w.drew i.size 0 b 0 0 [] (by simp) (fun j u hj=>by simp at hj)
  ·obtain⟨b,rfl,hbc⟩:=hocell hz0
   exact run_firstCells_some w.drew i.size xs.length b xs.length xs.length olds (by rw[hol,hsz]) (fun j u hj=>by simpa using(hbc j u hj).2)
 have hfit:Builtin.nextslicecap (xs.length+ys.length) xs.length*i.bytes<=281474976710656:=growslice_fits (by omega) (by rw[hby];exact hlen.1)
 have hrun:=run_append_grow_src (P:=C.P) w t t ty e' i zv hu hi' hzz sa xs.length xs.length olds hold _ _ _ hsrc (by omega) (by omega) hfit
 generalize hcells:(olds++news).toArray++Builtin.zeroCells zv.cells (grownCap w (xs.length+ys.length) xs.length e'-(xs.length+ys.length))=us' at hrun
 have hge:=grownCap_ge w (xs.length+ys.length) xs.length e'
 have hcm:=grownCap_le_maxLen w (xs.length+ys.length) xs.length e' (by simp only[maxLen];omega)
 have hat:∀j,j<(xs.length+ys.length)*sz->us'[j]?=(olds++news)[j]?:=fun j hj=>by
  rw[<-hcells,qAq (by simp only[qBK,qAD,hol,hnl];rw[<-qAu];exact hj)];simp
 have hcell:∀(j:Nat) (u:Value),(olds++news)[j]?=some u->(w.drew.alloc (.cells us' e')).cell? ⟨w.heap.size,j,none⟩=some u:=fun j u hj=>by
  have hjl:=(qAA.1 hj).1
  rw[qAD,hol,hnl,<-qAu]at hjl
  rw[cell_of_row _ w.heap.size j us' e' (0,0) (_root_.Go.heap_alloc_new w.drew _),hat j hjl];exact hj
 have hsz':us'.size=grownCap w (xs.length+ys.length) xs.length e'*sz:=by
  rw[<-hcells]
  simp only[Array.size_append,qBK,qAD,hol,hnl,size_zeroCells,hzs]
  rw[<-qAu,<-qAu];congr 1;omega
 have hbuf:=ha.newBuf (w':=w.drew.alloc (.cells us' e')) false e' sz (grownCap w (xs.length+ys.length) xs.length e') us' (xs++ys) rfl rfl rfl (by simp) (fun k hk=>Below.heap_alloc w.drew _ k hk) (_root_.Go.heap_alloc_new w.drew _) (qAM hro) (fun d hd=>by
   rcases qAc.1 hd with h|h
   ·exact hfx d h
   ·exact hf d h) (by rw[qAD];exact hge) hcm hsz'
  (fun j u hj hu=>by
   rw[qAD]at hj
   rw[hat j hj]at hu
   rcases qAc.1 (qAH hu)with h|h
   ·exact ho1 u h
   ·exact hn1 u h)
  (fun j u d hu hd=>by
   have hjl:=(qAA.1 hd).1
   rw[zDc,qAD,zBu hfx,zBu hf,<-qAu]at hjl
   rw[hat j hjl]at hu
   rw[zDc]at hd
   rcases qAQ j olds.length with h1|h1
   ·rw[qAF h1]at hu
    rw[qAF (by rw[zBu hfx,<-hol];exact h1)]at hd
    exact horep j u d hu hd
   ·rw[qAG h1]at hu
    rw[qAG (by rw[zBu hfx,<-hol];exact h1)]at hd
    rw[zBu hfx,<-hol]at hd
    exact hnrep _ u d hu hd)
 refine⟨.slice (some ⟨w.heap.size,0,none⟩) (xs.length+ys.length) (grownCap w (xs.length+ys.length) xs.length e'),w.drew.alloc (.cells us' e'),?_,_,hbuf.put (d:=some d) hd ?_⟩
 ·simp only[execOp,resolve,invoke,builtin,Sem.run_bind,Sem.run_pure,Result.andThen_ok,qA9,qAs,qBk,hxv,hyv,hrun]
 ·refine⟨?_,?_⟩
  ·show η.length<g.n+1;have:=ha.inv.n;omega
  ·have hn:=ha.inv.n
   show _=Value.slice ((upd g.blk g.n (some w.heap.size) η.length).map _) _ (upd g.cap g.n _ η.length)
   rw[<-hn];simp[upd]
end
section
variable {P:Program}{η:List Ob}{σ:Sl}{dst:Option Nat}{ty:TypeId}{pos:String}{after:Array Edge}{gd:Option (Nat×Bool)}{t:TypeId}{x y:Operand}
theorem zVS{sz:Nat}(hx:oval σ x=.d (.tsl []))(hy:Co η (oval σ y) (.slice []))(hs:zA2 P t=some sz):
  Ylds P η σ ⟨dst,.call ⟨.builtin .append, #[x,y], #[t,t]⟩,ty,pos,after,gd⟩ (.d (.tsl [])):=by
 obtain⟨e',i,hu,hi',hsz⟩:=zBH hs
 refine Ylds.same fun g w a hi h=>?_
 have hxr:=h x (by simp[Op.operands,Call.operands]);rw[hx]at hxr
 obtain⟨sa,hxv,hxr⟩:∃sa,a.eval x=.slice sa 0 0/\RepD g.St w (.slice sa 0 0) (.slice []):=by
  change RepD _ _ _ _ at hxr
  generalize a.eval x=v at hxr
  cases hxr with
  |tsl sa n xs h =>
   have:n=([]:List D).length:=by cases h;assumption
   subst this;exact⟨sa,rfl,h⟩
 have hyr:=(hy.rep hi (h y (by simp[Op.operands,Call.operands]))).open_slice (sz:=i.size) (by simp)
 obtain⟨ya,yc,news,hyv,_,_,hnl,hn1,hncell,hnrep⟩:=hyr
 refine⟨.slice sa 0 0,?_,RepD.tsl _ 0 [] hxr⟩
 have hrun:(Builtin.append_ #[t,t] ty #[.slice sa 0 0,.slice ya 0 yc]).run P w=.ok (.slice sa 0 0) w:=by
  cases sa <;> cases ya <;> simp[Builtin.append_,run_underlying hu,sizeOf,typeInfo,hi',Builtin.lenOf,Builtin.firstCells,loadCells,loadCellsFrom,storeCells]
 simp only[execOp,resolve,invoke,builtin,Sem.run_bind,Sem.run_pure,Result.andThen_ok,qA9,qAs,qBk,hxv,hyv]
 rw[show ([]:List D).length=0 from rfl,hrun];rfl
end
section
variable {C:Ctx}{l r:List Oper}{es:List Nat}{ηs:List (List Ob)}{j:Nat}{ss:List SV}{σ:Sl}
theorem zQ9{t x y ty pos after}{d e sz by' n id:Nat}{ys:List D}{ηi:List Ob}(i:Nat)(hi:idxC es j=some i)(hx:oval σ x=.d (.tsl []))(hy:oval σ y=.d (.slice ys))(hηi:ηs.getD i []=ηi)(h0:Nat.blt 0 ys.length=true)
  (he:zBd C.P t=some e) (hs:zA2 C.P t=some sz) (hz:zC3 C.P e=some sz) (hb:zCZ C.P t=some by') (hf:∀d∈ys,d.flat.length=sz) (hlen:ys.length*by'<=140737488355328/\ys.length<=140737488355328) (hd:Nat.blt d C.N=true) (hro:Nat.ble C.ro ηi.length=true) (hn:ys.length=n) (hid:ηi.length=id)
  (hη:ηs.getD (i+1) []=ηi++[.buf false e sz ys]) (hr:segS C l es ηs (j+1) r ss (put σ (some d) (.buf id n))):segS C l es ηs j (⟨some d,.call ⟨.builtin .append, #[x,y], #[t,t]⟩,ty,pos,after,none⟩::r) (.buf id n::ss) σ:=by
 subst hn
 subst hid
 refine⟨⟨rfl,hd,?_⟩,hr⟩
 unfold zL5;rw[hi]
 intro τ hτ
 have ex:∀z:Operand,z∈(Op.call ⟨.builtin .append, #[x,y], #[t,t]⟩).operands->oval τ z=oval σ z:=fun z hz=>by
  cases z with
  |tmp u=>exact hτ u (zBh hz)
  |_=>rfl
 rw[hηi,hη]
 refine EStep.of (ops:=l.toArray) (zZ5 (xs:=[]) (by rw[ex x (by simp[Op.operands,Call.operands])];exact hx) (by rw[ex y (by simp[Op.operands,Call.operands]),hy];exact zCQ rfl) h0 he hs hz hb (by simp) hf (by simpa using hlen) hd hro (zAD ?_))
 simp only[qAp,qAU,qBl]
 trivial
end
end Go.Sx
